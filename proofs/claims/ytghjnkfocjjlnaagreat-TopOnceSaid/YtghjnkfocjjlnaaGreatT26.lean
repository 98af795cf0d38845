/- A script's player: where its rows lie. -/
import Derived.Test.YtghjnkfocjjlnaaGreatT25
set_option linter.unusedSimpArgs false
set_option linter.unusedVariables false
namespace Go.Proofs.YtghjnkfocjjlnaaGreat
set_option maxRecDepth 100000
open Go.RowKit Go.Proofs.YtghjnkfocjjlnaaGreatW.PrintWords Go.Proofs.YtghjnkfocjjlnaaGreatW.PrintLast
set_option linter.unusedVariables false
set_option linter.unusedSimpArgs false
structure Ev where
  th : Int
  ret : Bool
  op : OpR
  ans : AnsR
def opL (o : OpR) : List Value := [.int .i64 o.kind, .int .i64 o.key, .int .i64 o.hi, .int .i64 o.val]
def evL (e : Ev) (pv : Value) : List Value := [.int .i64 e.th, .bool e.ret, .int .i64 e.op.kind, .int .i64 e.op.key, .int .i64 e.op.hi, .int .i64 e.op.val, .int .i64 e.ans.err, .bool e.ans.ok, .int .i64 e.ans.key, .int .i64 e.ans.val, .int .i64 e.ans.n, pv]
/-- The player, as data. -/
structure Py where
  S : Ix
  left : List (List OpR)
  ops : List OpR
  h : List Ev
/-- Who holds a block that is not the index's. -/
inductive Po | pl | lf | op | hi | ro
deriving DecidableEq
/-- The rows of what is left to a thread. -/
def LeftAt (w : World) (o2 : Nat → Option Po) (v : Value) (l : List OpR) : Prop :=
  (v = .slice none 0 0 ∧ l = []) ∨ ∃ b off cap cs rest, v = .slice (some ⟨b, off, none⟩) l.length cap ∧ l.length ≤ cap ∧ cap ≤ maxLen ∧ o2 b = some .ro ∧ w.heap[b]? = some (.cells cs 32 (0, 0)) ∧ cs.toList.drop off = l.flatMap opL ++ rest
/-- The pairs of an event. -/
def EvP (w : World) (o2 : Nat → Option Po) (v : Value) (l : List Pr) : Prop := w.ownsRow 0 43 2 v l.length (cellsP l) ∧ ∀ b, v.ownBlock = some b → o2 b = some .ro
/-- The history's cells. -/
inductive EvsAt (w : World) (o2 : Nat → Option Po) : List Ev → List Value → Prop
  | nil : EvsAt w o2 [] []
  | snoc {l : List Ev} {vs : List Value} {e : Ev} {pv : Value} : EvsAt w o2 l vs → EvP w o2 pv e.ans.pairs → EvsAt w o2 (l ++ [e]) (vs ++ evL e pv)
structure Pq where
  pp : Nat
  lb : Nat
  ob : Nat
structure PyAt (w : World) (px n : Nat) (q : Pq) (o2 : Nat → Option Po) (Y : Py) (lcs ocs : Array Value) (lcap ocap : Nat) (hv : Value) (hs : List Value) : Prop where
  blk : w.heap[q.pp]? = some (.cells #[pt_ px, .slice (some ⟨q.lb, 0, none⟩) n lcap, .slice (some ⟨q.ob, 0, none⟩) n ocap, hv] 57 (0, 0))
  opp : o2 q.pp = some .pl
  olb : o2 q.lb = some .lf
  oob : o2 q.ob = some .op
  lblk : w.heap[q.lb]? = some (.cells lcs 33 (0, 0))
  oblk : w.heap[q.ob]? = some (.cells ocs 32 (0, 0))
  lle : n ≤ lcap ∧ lcap ≤ maxLen
  ole : n ≤ ocap ∧ ocap ≤ maxLen
  llen : Y.left.length = n
  olen : Y.ops.length = n
  left : ∀ t, t < n → ∃ v, lcs[t]? = some v ∧ LeftAt w o2 v (Y.left.getD t [])
  ops : ∀ t, t < n → ∀ k, k < 4 → ocs[t * 4 + k]? = (opL (Y.ops.getD t op0))[k]?
  hrow : w.ownsRow 0 47 12 hv Y.h.length hs
  hown : ∀ b, hv.ownBlock = some b → o2 b = some .hi
  evs : EvsAt w o2 Y.h hs
/-- THE INVARIANT of a player: the index's, and its own. -/
structure PI (W w : World) (P : Pl) (own : Own) (q : Pq) (o2 : Nat → Option Po) (Y : Py) : Prop where
  is : IS W w P own Y.S
  free : ∀ b o, o2 b = some o → own b = none ∧ W.heap.size ≤ b ∧ b < w.heap.size
  at_ : ∃ lcs ocs lcap ocap hv hs, PyAt w P.px P.pts.length q o2 Y lcs ocs lcap ocap hv hs
theorem LeftAt.keep {w w' : World} {o2 o2' : Nat → Option Po} {v : Value} {l : List OpR} (h : LeftAt w o2 v l) (hk : ∀ b, o2 b = some .ro → o2' b = some .ro ∧ w'.heap[b]? = w.heap[b]?) : LeftAt w' o2' v l := by
  rcases h with h | ⟨b, off, cap, cs, rest, h1, h2, h3, h4, h5, h6⟩
  · exact .inl h
  · exact .inr ⟨b, off, cap, cs, rest, h1, h2, h3, (hk b h4).1, (hk b h4).2.trans h5, h6⟩
theorem EvP.keep {w w' : World} {o2 o2' : Nat → Option Po} {v : Value} {l : List Pr} (h : EvP w o2 v l) (hk : ∀ b, o2 b = some .ro → o2' b = some .ro ∧ w'.heap[b]? = w.heap[b]?) : EvP w' o2' v l :=
  ⟨ownsRow_same h.1 (fun b hb => (hk b (h.2 b hb)).2), fun b hb => (hk b (h.2 b hb)).1⟩
theorem EvsAt.keep {w w' : World} {o2 o2' : Nat → Option Po} {l : List Ev} {vs : List Value} (h : EvsAt w o2 l vs) (hk : ∀ b, o2 b = some .ro → o2' b = some .ro ∧ w'.heap[b]? = w.heap[b]?) : EvsAt w' o2' l vs := by
  induction h with
  | nil => exact .nil
  | snoc h1 h2 ih => exact .snoc ih (h2.keep hk)
/-- What the player holds stays when its blocks do. -/
theorem PyAt.keep {w w' : World} {px n : Nat} {q : Pq} {o2 : Nat → Option Po} {Y : Py} {lcs ocs : Array Value} {lcap ocap : Nat} {hv : Value} {hs : List Value} (h : PyAt w px n q o2 Y lcs ocs lcap ocap hv hs) (S : Ix) (hk : ∀ b o, o2 b = some o → w'.heap[b]? = w.heap[b]?) : PyAt w' px n q o2 { Y with S := S } lcs ocs lcap ocap hv hs where
  blk := (hk _ _ h.opp).trans h.blk
  opp := h.opp
  olb := h.olb
  oob := h.oob
  lblk := (hk _ _ h.olb).trans h.lblk
  oblk := (hk _ _ h.oob).trans h.oblk
  lle := h.lle
  ole := h.ole
  llen := h.llen
  olen := h.olen
  left := fun t ht => by
    obtain ⟨v, h1, h2⟩ := h.left t ht
    exact ⟨v, h1, h2.keep (fun b hb => ⟨hb, hk b _ hb⟩)⟩
  ops := h.ops
  hrow := ownsRow_same h.hrow (fun b hb => hk b _ (h.hown b hb))
  hown := h.hown
  evs := h.evs.keep (fun b hb => ⟨hb, hk b _ hb⟩)
/-- Room is made behind all: the player holds what it held. -/
theorem PI.later {W w w' : World} {P : Pl} {own : Own} {q : Pq} {o2 : Nat → Option Po} {Y : Py} (h : PI W w P own q o2 Y) (hb : Below w.heap.size w w') : PI W w' P own q o2 Y := by
  obtain ⟨lcs, ocs, lcap, ocap, hv, hs, hp⟩ := h.at_
  exact ⟨h.is.later hb, fun b o ho => ⟨(h.free b o ho).1, (h.free b o ho).2.1, Nat.lt_of_lt_of_le (h.free b o ho).2.2 hb.size⟩,
    lcs, ocs, lcap, ocap, hv, hs, hp.keep Y.S (fun b o ho => hb.block b (h.free b o ho).2.2)⟩
theorem opL_at (o : OpR) (k : Nat) (hk : k < 4) : (opL o)[k]? = some ((opL o).getD k default) := by
  rw [List.getD_eq_getElem?_getD, List.getElem?_eq_getElem (by simpa [opL] using hk)]; rfl
/-- A thread's next operation is taken: its row is one shorter, it is what it is at. -/
theorem PI.take {W w : World} {P : Pl} {own : Own} {q : Pq} {o2 : Nat → Option Po} {Y : Py} {lcs ocs : Array Value} {lcap ocap : Nat} {hv : Value} {hs : List Value} (h : PI W w P own q o2 Y) (hp : PyAt w P.px P.pts.length q o2 Y lcs ocs lcap ocap hv hs) {t : Nat} (ht : t < P.pts.length) {op : OpR} {l : List OpR} {v : Value} (hv' : LeftAt w o2 v l)
    {w' : World} (hl : w'.heap[q.lb]? = some (.cells (lcs.setIfInBounds t v) 33 (0, 0)))
    (ho : w'.heap[q.ob]? = some (.cells ((((ocs.setIfInBounds (t * 4) (.int .i64 op.kind)).setIfInBounds (t * 4 + 1) (.int .i64 op.key)).setIfInBounds (t * 4 + 2) (.int .i64 op.hi)).setIfInBounds (t * 4 + 3) (.int .i64 op.val)) 32 (0, 0)))
    (hoth : ∀ b, b ≠ q.lb → b ≠ q.ob → w'.heap[b]? = w.heap[b]?) (hb : Below W.heap.size W w') (hsz : w'.heap.size = w.heap.size) :
    PI W w' P own q o2 { Y with left := Y.left.set t l, ops := Y.ops.set t op } := by
  have n1 : ∀ b o, own b = some o → w'.heap[b]? = w.heap[b]? := fun b o hob => hoth b (by rintro rfl; rw [(h.free _ _ hp.olb).1] at hob; cases hob) (by rintro rfl; rw [(h.free _ _ hp.oob).1] at hob; cases hob)
  have n2 : ∀ b o, o2 b = some o → o ≠ .lf → o ≠ .op → w'.heap[b]? = w.heap[b]? := fun b o hob e1 e2 => hoth b (by rintro rfl; rw [hp.olb] at hob; exact e1 (Option.some.inj hob).symm) (by rintro rfl; rw [hp.oob] at hob; exact e2 (Option.some.inj hob).symm)
  have n3 : ∀ b, o2 b = some .ro → o2 b = some .ro ∧ w'.heap[b]? = w.heap[b]? := fun b hb => ⟨hb, n2 b _ hb (by decide) (by decide)⟩
  refine ⟨h.is.free hb (Nat.le_of_eq hsz.symm) n1, fun b o hob => by rw [hsz]; exact h.free b o hob, lcs.setIfInBounds t v, (((ocs.setIfInBounds (t * 4) (.int .i64 op.kind)).setIfInBounds (t * 4 + 1) (.int .i64 op.key)).setIfInBounds (t * 4 + 2) (.int .i64 op.hi)).setIfInBounds (t * 4 + 3) (.int .i64 op.val), lcap, ocap, hv, hs, ?_⟩
  refine ⟨(n2 _ _ hp.opp (by decide) (by decide)).trans hp.blk, hp.opp, hp.olb, hp.oob, hl, ho, hp.lle, hp.ole, by simpa using hp.llen, by simpa using hp.olen, ?_, ?_, ?_, hp.hown, hp.evs.keep n3⟩
  · intro j hj
    obtain ⟨v0, h1, h2⟩ := hp.left j hj
    by_cases e : j = t
    · subst e
      refine ⟨v, ?_, ?_⟩
      · rw [Array.getElem?_setIfInBounds_self_of_lt (Array.getElem?_eq_some_iff.1 h1).1]
      · show LeftAt w' o2 v ((Y.left.set j l).getD j [])
        rw [List.getD_eq_getElem?_getD, List.getElem?_set_self (by rw [hp.llen]; exact hj)]
        exact hv'.keep n3
    · refine ⟨v0, ?_, ?_⟩
      · rw [Array.getElem?_setIfInBounds_ne (fun x => e x.symm)]; exact h1
      · show LeftAt w' o2 v0 ((Y.left.set t l).getD j [])
        rw [List.getD_eq_getElem?_getD, List.getElem?_set_ne (fun x => e x.symm), ← List.getD_eq_getElem?_getD]
        exact h2.keep n3
  · intro j hj k hk
    have h1 := hp.ops j hj
    have hz : ∀ k, k < 4 → t * 4 + k < ocs.size := fun k hk => (Array.getElem?_eq_some_iff.1 ((hp.ops t ht k hk).trans (opL_at _ k hk))).1
    have z0 := hz 0 (by decide)
    have z1 := hz 1 (by decide)
    have z2 := hz 2 (by decide)
    have z3 := hz 3 (by decide)
    show _ = (opL ((Y.ops.set t op).getD j op0))[k]?
    by_cases e : j = t
    · subst e
      rw [List.getD_eq_getElem?_getD, List.getElem?_set_self (by rw [hp.olen]; exact hj)]
      have hk4 : k = 0 ∨ k = 1 ∨ k = 2 ∨ k = 3 := by omega
      rcases hk4 with rfl | rfl | rfl | rfl <;> simp [Array.getElem?_setIfInBounds, opL] <;> omega
    · rw [List.getD_eq_getElem?_getD, List.getElem?_set_ne (fun x => e x.symm), ← List.getD_eq_getElem?_getD]
      rw [Array.getElem?_setIfInBounds_ne (by omega), Array.getElem?_setIfInBounds_ne (by omega), Array.getElem?_setIfInBounds_ne (by omega), Array.getElem?_setIfInBounds_ne (by omega)]
      exact h1 k hk
  · exact ownsRow_same hp.hrow (fun b hb => n2 b _ (hp.hown b hb) (by decide) (by decide))
/-- Blocks of nobody, and rows that are only read, stay. -/
def FP (w : World) (own : Own) (o2 : Nat → Option Po) (w' : World) (own' : Own) (o2' : Nat → Option Po) : Prop :=
  w.heap.size ≤ w'.heap.size ∧ ∀ b, b < w.heap.size → own b = none → o2 b = none ∨ o2 b = some .ro → own' b = none ∧ o2' b = o2 b ∧ w'.heap[b]? = w.heap[b]?
theorem FP.refl (w : World) (own : Own) (o2 : Nat → Option Po) : FP w own o2 w own o2 := ⟨Nat.le_refl _, fun b _ h _ => ⟨h, rfl, rfl⟩⟩
theorem FP.trans {w1 w2 w3 : World} {a1 a2 a3 : Own} {b1 b2 b3 : Nat → Option Po} (h : FP w1 a1 b1 w2 a2 b2) (k : FP w2 a2 b2 w3 a3 b3) : FP w1 a1 b1 w3 a3 b3 :=
  ⟨Nat.le_trans h.1 k.1, fun b hb h1 h2 => by
    obtain ⟨x1, x2, x3⟩ := h.2 b hb h1 h2
    obtain ⟨y1, y2, y3⟩ := k.2 b (Nat.lt_of_lt_of_le hb h.1) x1 (by rw [x2]; exact h2)
    exact ⟨y1, y2.trans x2, y3.trans x3⟩⟩
theorem FP.below {w w' : World} {own : Own} {o2 : Nat → Option Po} (h : Below w.heap.size w w') : FP w own o2 w' own o2 := ⟨h.size, fun b hb h1 _ => ⟨h1, rfl, h.block b hb⟩⟩
theorem FP.fk {w w' : World} {own own' : Own} {o2 : Nat → Option Po} (h : FK w own w' own') : FP w own o2 w' own' o2 := ⟨h.1, fun b hb h1 _ => ⟨(h.2 b hb h1).1, rfl, (h.2 b hb h1).2⟩⟩
theorem PI.ends2 {W w w' : World} {P : Pl} {own own' : Own} {q : Pq} {o2 : Nat → Option Po} {Y : Py} {S : Ix} (h : PI W w P own q o2 Y) (is' : IS W w' P own' S) (fk : FK w own w' own') : PI W w' P own' q o2 { Y with S := S } := by
  obtain ⟨lcs, ocs, lcap, ocap, hv, hs, hp⟩ := h.at_
  exact ⟨is', fun b o ho => ⟨(fk.2 b (h.free b o ho).2.2 (h.free b o ho).1).1, (h.free b o ho).2.1, Nat.lt_of_lt_of_le (h.free b o ho).2.2 fk.1⟩,
    lcs, ocs, lcap, ocap, hv, hs, hp.keep S (fun b o ho => (fk.2 b (h.free b o ho).2.2 (h.free b o ho).1).2)⟩
/-- More blocks get an owner. -/
theorem PyAt.more {w : World} {px n : Nat} {q : Pq} {o2 o2' : Nat → Option Po} {Y : Py} {lcs ocs : Array Value} {lcap ocap : Nat} {hv : Value} {hs : List Value} (h : PyAt w px n q o2 Y lcs ocs lcap ocap hv hs) (hk : ∀ b o, o2 b = some o → o2' b = some o) : PyAt w px n q o2' Y lcs ocs lcap ocap hv hs where
  blk := h.blk
  opp := hk _ _ h.opp
  olb := hk _ _ h.olb
  oob := hk _ _ h.oob
  lblk := h.lblk
  oblk := h.oblk
  lle := h.lle
  ole := h.ole
  llen := h.llen
  olen := h.olen
  left := fun t ht => by
    obtain ⟨v, h1, h2⟩ := h.left t ht
    exact ⟨v, h1, h2.keep (fun b hb => ⟨hk b _ hb, rfl⟩)⟩
  ops := h.ops
  hrow := h.hrow
  hown := fun b hb => hk b _ (h.hown b hb)
  evs := h.evs.keep (fun b hb => ⟨hk b _ hb, rfl⟩)
/-- A new row of pairs that is only read. -/
theorem PI.gift {W w w' : World} {P : Pl} {own : Own} {q : Pq} {o2 : Nat → Option Po} {Y : Py} (h : PI W w P own q o2 Y) (hb : Below w.heap.size w w') {v : Value} {l : List Pr} (hr : w'.ownsRow 0 43 2 v l.length (cellsP l)) (hn : ∀ b, v.ownBlock = some b → w.heap.size ≤ b) :
    ∃ o2', PI W w' P own q o2' Y ∧ FP w own o2 w' own o2' ∧ EvP w' o2' v l ∧ (∀ b o, o2 b = some o → o2' b = some o) := by
  have hlt : ∀ b, v.ownBlock = some b → b < w'.heap.size := fun b e => (hr.lt b e).2
  have hno : ∀ b, v.ownBlock = some b → o2 b = none := fun b e => by
    cases ho : o2 b with
    | none => rfl
    | some o => have := (h.free b o ho).2.2; have := hn b e; omega
  have hk : ∀ b o, o2 b = some o → (if v.ownBlock = some b then some Po.ro else o2 b) = some o := fun b o ho => by
    rw [if_neg (fun e => by rw [hno b e] at ho; cases ho)]; exact ho
  have h' := h.later hb
  obtain ⟨lcs, ocs, lcap, ocap, hv, hs, hp⟩ := h'.at_
  refine ⟨fun b => if v.ownBlock = some b then some .ro else o2 b, ⟨h'.is, fun b o ho => ?_, lcs, ocs, lcap, ocap, hv, hs, hp.more hk⟩, ⟨hb.size, fun b hlb h1 h2 => ⟨h1, ?_, hb.block b hlb⟩⟩, ⟨hr, fun b e => if_pos e⟩, hk⟩
  · by_cases e : v.ownBlock = some b
    · exact ⟨h.is.none_new (hn b e), Nat.le_trans h.is.below.size (hn b e), hlt b e⟩
    · simp only [if_neg e] at ho
      exact h'.free b o ho
  · exact if_neg (fun e => by have := hn b e; omega)
/-- An event is told: the history is one longer. -/
theorem PI.said {W w : World} {P : Pl} {own : Own} {q : Pq} {o2 : Nat → Option Po} {Y : Py} {lcs ocs : Array Value} {lcap ocap : Nat} {hv : Value} {hs : List Value} (h : PI W w P own q o2 Y) (hp : PyAt w P.px P.pts.length q o2 Y lcs ocs lcap ocap hv hs) {e : Ev} {pv : Value} (he : EvP w o2 pv e.ans.pairs)
    {w9 : World} {g cap : Nat} (hr : w9.ownsRow 0 47 12 (.slice (some ⟨g, 0, none⟩) (Y.h.length + 1) cap) (Y.h.length + 1) (hs ++ evL e pv)) (hg : w.grownBy w9 hv.ownBlock) (hl : hv.ownBlock = some g ∨ g = w.heap.size) :
    ∃ o2', PI W (w9.setCell ⟨q.pp, 3, none⟩ (.slice (some ⟨g, 0, none⟩) (Y.h.length + 1) cap)) P own q o2' { Y with h := Y.h ++ [e] } ∧ FP w own o2 (w9.setCell ⟨q.pp, 3, none⟩ (.slice (some ⟨g, 0, none⟩) (Y.h.length + 1) cap)) own o2' := by
  have hlt : g < w9.heap.size := (hr.lt g rfl).2
  have hgo : own g = none ∧ W.heap.size ≤ g ∧ (o2 g = some .hi ∨ o2 g = none) := by
    rcases hl with hl | rfl
    · have h1 := hp.hown g hl; exact ⟨(h.free g _ h1).1, (h.free g _ h1).2.1, .inl h1⟩
    · refine ⟨h.is.none_new (Nat.le_refl _), h.is.below.size, ?_⟩
      rcases hx : o2 w.heap.size with _ | o
      · exact .inr rfl
      · have h1 := (h.free _ _ hx).2.2; omega
  have hblk : ∀ b o, o2 b = some o → o ≠ .hi → w9.heap[b]? = w.heap[b]? := fun b o hb ho => hg.block b (h.free b o hb).2.2 (fun e1 => by have h1 := hp.hown b e1.symm; rw [hb] at h1; exact ho (Option.some.inj h1))
  have hne : ∀ b o, o2 b = some o → o ≠ .hi → b ≠ g := fun b o hb ho e1 => by
    subst e1; rcases hgo.2.2 with h1 | h1 <;> rw [hb] at h1
    · exact ho (Option.some.inj h1)
    · cases h1
  have hpp := h.free _ _ hp.opp
  have hk : ∀ b o, o2 b = some o → o ≠ .hi → o ≠ .pl → (if b = g then some Po.hi else o2 b) = some o ∧ (w9.setCell ⟨q.pp, 3, none⟩ (.slice (some ⟨g, 0, none⟩) (Y.h.length + 1) cap)).heap[b]? = w.heap[b]? := fun b o hb h1 h2 =>
    ⟨by rw [if_neg (hne b o hb h1)]; exact hb, (setCell_other _ (by rintro rfl; rw [hp.opp] at hb; exact h2 (Option.some.inj hb).symm)).trans (hblk b o hb h1)⟩
  refine ⟨fun b => if b = g then some .hi else o2 b, ⟨h.is.free ((h.is.below.grown hg h.is.below.size (fun k hk => (h.free k _ (hp.hown k hk)).2.1)).setCell hpp.2.1 _) (by simpa [World.setCell] using hg.size) (fun b o ho => ?_), fun b o hb => ?_, lcs, ocs, lcap, ocap, .slice (some ⟨g, 0, none⟩) (Y.h.length + 1) cap, hs ++ evL e pv, ?_⟩, ⟨by simpa [World.setCell] using hg.size, fun b hlb h1 h2 => ⟨h1, ?_, ?_⟩⟩⟩
  · rw [setCell_other _ (by rintro rfl; rw [hpp.1] at ho; cases ho)]
    exact hg.block b (h.is.mine b o ho).2 (fun e1 => by have h1 := h.free b _ (hp.hown b e1.symm); rw [h1.1] at ho; cases ho)
  · show own b = none ∧ W.heap.size ≤ b ∧ b < (w9.setCell _ _).heap.size
    rw [show (w9.setCell ⟨q.pp, 3, none⟩ (.slice (some ⟨g, 0, none⟩) (Y.h.length + 1) cap)).heap.size = w9.heap.size by simp [World.setCell]]
    by_cases e1 : b = g
    · subst e1; exact ⟨hgo.1, hgo.2.1, hlt⟩
    · simp only [if_neg e1] at hb
      have h1 := h.free b o hb
      exact ⟨h1.1, h1.2.1, Nat.lt_of_lt_of_le h1.2.2 hg.size⟩
  · have n3 : ∀ b, o2 b = some .ro → (fun b => if b = g then some Po.hi else o2 b) b = some .ro ∧ (w9.setCell ⟨q.pp, 3, none⟩ (.slice (some ⟨g, 0, none⟩) (Y.h.length + 1) cap)).heap[b]? = w.heap[b]? := fun b hb => hk b _ hb (by decide) (by decide)
    refine ⟨heap_setCell_same w9 q.pp 3 _ _ _ ((hblk _ _ hp.opp (by decide)).trans hp.blk), by simp only [if_neg (hne _ _ hp.opp (by decide))]; exact hp.opp, (hk _ _ hp.olb (by decide) (by decide)).1, (hk _ _ hp.oob (by decide) (by decide)).1, ((hk _ _ hp.olb (by decide) (by decide)).2).trans hp.lblk, ((hk _ _ hp.oob (by decide) (by decide)).2).trans hp.oblk, hp.lle, hp.ole, hp.llen, hp.olen, ?_, hp.ops, ?_, ?_, .snoc (hp.evs.keep n3) (he.keep n3)⟩
    · intro t ht
      obtain ⟨v, h1, h2⟩ := hp.left t ht
      exact ⟨v, h1, h2.keep n3⟩
    · rw [show ({ Y with h := Y.h ++ [e] } : Py).h.length = Y.h.length + 1 by simp]
      exact ownsRow_same hr (fun b hb => setCell_other _ (by rintro rfl; exact hne _ _ hp.opp (by decide) (Option.some.inj hb).symm))
    · intro b hb
      have h1 : g = b := Option.some.inj hb
      simp [h1]
  · refine if_neg (fun e1 => ?_)
    subst e1
    rcases hl with hl | rfl
    · have h3 := hp.hown b hl; rcases h2 with h2 | h2 <;> rw [h2] at h3 <;> cases h3
    · omega
  · rw [setCell_other _ (by rintro rfl; rcases h2 with h2 | h2 <;> rw [hp.opp] at h2 <;> cases h2)]
    exact hg.block b hlb (fun e1 => by have h3 := hp.hown b e1.symm; rcases h2 with h2 | h2 <;> rw [h2] at h3 <;> cases h3)
end Go.Proofs.YtghjnkfocjjlnaaGreat
