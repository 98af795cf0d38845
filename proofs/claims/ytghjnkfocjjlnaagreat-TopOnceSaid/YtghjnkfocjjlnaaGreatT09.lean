/- How the index lies in memory: places, owners of blocks, how a thread's next step lies as a function value. -/
/- What a store, a new block, a turn of the arena does to the index as it lies. -/
/- Calls through function values whose function is known by a contract alone. -/
import Derived.Test.YtghjnkfocjjlnaaGreatT08
import Derived.Test.YtghjnkfocjjlnaaGreatT03
import Derived.Test.YtghjnkfocjjlnaaGreatT04
import Derived.Laws.EntriesVeiled
set_option linter.unusedSimpArgs false
set_option linter.unusedVariables false
section
namespace Go.Proofs.YtghjnkfocjjlnaaGreat
set_option maxRecDepth 100000
open Go.RowKit
set_option linter.unusedVariables false
/-- Who owns a block: the arena, the index, its rows, a thread, nobody who writes it, a thread alone for a while. -/
inductive Ow | ar | ix | row | ord | th | ro | mu (i : Nat)
deriving DecidableEq
abbrev pt_ (b : Nat) : Value := .pointer (some ⟨b, 0, none⟩)
def ansC (a : AnsR) (pv : Value) : Array Value := #[.int .i64 a.err, .bool a.ok, .int .i64 a.key, .int .i64 a.val, .int .i64 a.n, pv]
def baseC (b : BaseR) : Array Value := #[.int .i64 b.id, .int .i64 b.kind, .int .i64 b.treap, .int .i64 b.stat, .int .i64 b.home]
def foundC (f : FoundR) : Array Value := #[.int .i64 f.base.id, .int .i64 f.base.kind, .int .i64 f.base.treap, .int .i64 f.base.stat, .int .i64 f.base.home, .int .i64 f.cell, .int .i64 f.up, .int .i64 f.most, .bool f.isMost]
abbrev Own := Nat → Option Ow
/-- A block that is never written any more. -/
def Bx (w : World) (own : Own) (b : Nat) (cs : Array Value) (t : TypeId) : Prop := own b = some .ro ∧ w.heap[b]? = some (.cells cs t (0, 0))
/-- A block of thread i alone. -/
def Mx (w : World) (own : Own) (i b : Nat) (cs : Array Value) (t : TypeId) : Prop := own b = some (.mu i) ∧ w.heap[b]? = some (.cells cs t (0, 0))
/-- Pairs that are never written any more. -/
def PV (w : World) (own : Own) (v : Value) (l : List Pr) : Prop := w.ownsRow 0 43 2 v l.length (cellsP l) ∧ ∀ b, v.ownBlock = some b → own b = some .ro
def Rep0 (w : World) (own : Own) (pt : Nat) (v : Value) : K0 → Prop
  | .gets => v = .func (.func 55) #[pt_ pt] #[]
  | .ends => v = .func (.func 56) #[pt_ pt] #[]
  | .spans => ∃ bt, v = .func (.func 97) #[] #[pt_ bt] ∧ Bx w own bt #[pt_ pt] 90
def RepU (w : World) (own : Own) (pt : Nat) (v : Value) : KU → Prop
  | .upd => v = .func (.func 53) #[pt_ pt] #[]
  | .looks key k => ∃ bt bk bh vh, v = .func (.func 87) #[] #[pt_ bt, pt_ bk, pt_ bh] ∧ Bx w own bt #[pt_ pt] 90 ∧ Bx w own bk #[.int .i64 key] 3 ∧ Bx w own bh #[vh] 117 ∧ Rep0 w own pt vh k
  | .ret a => ∃ bt ba pv, v = .func (.func 85) #[] #[pt_ bt, pt_ ba] ∧ Bx w own bt #[pt_ pt] 90 ∧ Bx w own ba (ansC a pv) 45 ∧ PV w own pv a.pairs
  | .leaf _ _ _ => False
  | .retS _ => False
def RepF (w : World) (own : Own) (pt : Nat) (v : Value) : KF → Prop
  | .looks key k => ∃ bt bg bh vg vh, v = .func (.func 88) #[] #[pt_ bt, pt_ bg, pt_ bh] ∧ Bx w own bt #[pt_ pt] 90 ∧ Bx w own bg #[vg] 1 ∧ Bx w own bh #[vh] 117 ∧ RepU w own pt vg (.looks key k) ∧ Rep0 w own pt vh k
  | .upd => ∃ bt, v = .func (.func 74) #[] #[pt_ bt] ∧ Bx w own bt #[pt_ pt] 90
  | .joins b k => ∃ bb bh bt vh, v = .func (.func 168) #[] #[pt_ bb, pt_ bh, pt_ bt] ∧ Bx w own bb (baseC b) 120 ∧ Bx w own bh #[vh] 1 ∧ Bx w own bt #[pt_ pt] 90 ∧ RepU w own pt vh k
  | .leaf _ _ _ => False
def RepS (w : World) (own : Own) (pt : Nat) (v : Value) : KS → Prop
  | .upd f => ∃ bt bf, v = .func (.func 76) #[] #[pt_ bt, pt_ bf] ∧ Bx w own bt #[pt_ pt] 90 ∧ Bx w own bf (foundC f) 137
  | .joins _ _ => False
  | .leaf _ _ _ _ => False
def RepI (w : World) (own : Own) (i pt : Nat) (v : Value) : KI → Prop
  | .down f key k => ∃ bt bf bh bk vh, v = .func (.func 151) #[] #[pt_ bt, pt_ bf, pt_ bh, pt_ bk] ∧ Bx w own bt #[pt_ pt] 90 ∧ Mx w own i bf (foundC f) 137 ∧ Bx w own bh #[vh] 117 ∧ Bx w own bk #[.int .i64 key] 3 ∧ RepF w own pt vh k
  | _ => False
def RepW (w : World) (own : Own) (i pt : Nat) (v : Value) : KW → Prop
  | .upd id a => ∃ bt bi ba pv, v = .func (.func 81) #[] #[pt_ bt, pt_ bi, pt_ ba] ∧ Bx w own bt #[pt_ pt] 90 ∧ Bx w own bi #[.int .i64 id] 3 ∧ Bx w own ba (ansC a pv) 45 ∧ PV w own pv a.pairs
  | _ => False
def RepN (w : World) (own : Own) (i pt : Nat) (v : Value) : Option Nx → Prop
  | none => v = .nilFunc
  | some (.load cell k) => ∃ bh bt bc vh, v = .func (.func 152) #[] #[pt_ bh, pt_ bt, pt_ bc] ∧ Bx w own bh #[vh] 143 ∧ Bx w own bt #[pt_ pt] 90 ∧ Bx w own bc #[.int .i64 cell] 3 ∧ RepI w own i pt vh k
  | some (.swap cell old now k) => ∃ bh bt bc bo bn vh, v = .func (.func 131) #[] #[pt_ bh, pt_ bt, pt_ bc, pt_ bo, pt_ bn] ∧ Bx w own bh #[vh] 146 ∧ Bx w own bt #[pt_ pt] 90 ∧ Bx w own bc #[.int .i64 cell] 3 ∧ Bx w own bo #[.int .i64 old] 3 ∧ Bx w own bn #[.int .i64 now] 3 ∧ RepW w own i pt vh k
  | some (.once _ _ _) => False
  | some .nothing => False
/-- What thread i's function values lean on is as it was. -/
def Keeps (i : Nat) (w : World) (own : Own) (w' : World) (own' : Own) : Prop := ∀ b, own b = some .ro ∨ own b = some (.mu i) → own' b = own b ∧ w'.heap[b]? = w.heap[b]?
theorem Bx.keep {i : Nat} {w w' : World} {own own' : Own} {b : Nat} {cs : Array Value} {t : TypeId} (h : Bx w own b cs t) (hk : Keeps i w own w' own') : Bx w' own' b cs t :=
  ⟨((hk b (.inl h.1)).1).trans h.1, ((hk b (.inl h.1)).2).trans h.2⟩
theorem Mx.keep {i : Nat} {w w' : World} {own own' : Own} {b : Nat} {cs : Array Value} {t : TypeId} (h : Mx w own i b cs t) (hk : Keeps i w own w' own') : Mx w' own' i b cs t :=
  ⟨((hk b (.inr h.1)).1).trans h.1, ((hk b (.inr h.1)).2).trans h.2⟩
theorem PV.keep {i : Nat} {w w' : World} {own own' : Own} {v : Value} {l : List Pr} (h : PV w own v l) (hk : Keeps i w own w' own') : PV w' own' v l :=
  ⟨ownsRow_same h.1 (fun b hb => (hk b (.inl (h.2 b hb))).2), fun b hb => ((hk b (.inl (h.2 b hb))).1).trans (h.2 b hb)⟩
theorem Rep0.keep {i : Nat} {w w' : World} {own own' : Own} {pt : Nat} {v : Value} {k : K0} (h : Rep0 w own pt v k) (hk : Keeps i w own w' own') : Rep0 w' own' pt v k := by
  cases k with
  | gets => exact h
  | ends => exact h
  | spans => obtain ⟨bt, h1, h2⟩ := h; exact ⟨bt, h1, h2.keep hk⟩
theorem RepU.keep {i : Nat} {w w' : World} {own own' : Own} {pt : Nat} {v : Value} {k : KU} (h : RepU w own pt v k) (hk : Keeps i w own w' own') : RepU w' own' pt v k := by
  cases k with
  | upd => exact h
  | looks key k => obtain ⟨bt, bk, bh, vh, h1, h2, h3, h4, h5⟩ := h; exact ⟨bt, bk, bh, vh, h1, h2.keep hk, h3.keep hk, h4.keep hk, h5.keep hk⟩
  | ret a => obtain ⟨bt, ba, pv, h1, h2, h3, h4⟩ := h; exact ⟨bt, ba, pv, h1, h2.keep hk, h3.keep hk, h4.keep hk⟩
  | leaf _ _ _ => exact h
  | retS _ => exact h
theorem RepF.keep {i : Nat} {w w' : World} {own own' : Own} {pt : Nat} {v : Value} {k : KF} (h : RepF w own pt v k) (hk : Keeps i w own w' own') : RepF w' own' pt v k := by
  cases k with
  | looks key k => obtain ⟨bt, bg, bh, vg, vh, h1, h2, h3, h4, h5, h6⟩ := h; exact ⟨bt, bg, bh, vg, vh, h1, h2.keep hk, h3.keep hk, h4.keep hk, h5.keep hk, h6.keep hk⟩
  | upd => obtain ⟨bt, h1, h2⟩ := h; exact ⟨bt, h1, h2.keep hk⟩
  | joins b k => obtain ⟨bb, bh, bt, vh, h1, h2, h3, h4, h5⟩ := h; exact ⟨bb, bh, bt, vh, h1, h2.keep hk, h3.keep hk, h4.keep hk, h5.keep hk⟩
  | leaf _ _ _ => exact h
theorem RepS.keep {i : Nat} {w w' : World} {own own' : Own} {pt : Nat} {v : Value} {k : KS} (h : RepS w own pt v k) (hk : Keeps i w own w' own') : RepS w' own' pt v k := by
  cases k with
  | upd f => obtain ⟨bt, bf, h1, h2, h3⟩ := h; exact ⟨bt, bf, h1, h2.keep hk, h3.keep hk⟩
  | joins _ _ => exact h
  | leaf _ _ _ _ => exact h
theorem RepI.keep {i : Nat} {w w' : World} {own own' : Own} {pt : Nat} {v : Value} {k : KI} (h : RepI w own i pt v k) (hk : Keeps i w own w' own') : RepI w' own' i pt v k := by
  cases k with
  | down f key k => obtain ⟨bt, bf, bh, bk, vh, h1, h2, h3, h4, h5, h6⟩ := h; exact ⟨bt, bf, bh, bk, vh, h1, h2.keep hk, h3.keep hk, h4.keep hk, h5.keep hk, h6.keep hk⟩
  | _ => exact h
theorem RepW.keep {i : Nat} {w w' : World} {own own' : Own} {pt : Nat} {v : Value} {k : KW} (h : RepW w own i pt v k) (hk : Keeps i w own w' own') : RepW w' own' i pt v k := by
  cases k with
  | upd id a => obtain ⟨bt, bi, ba, pv, h1, h2, h3, h4, h5⟩ := h; exact ⟨bt, bi, ba, pv, h1, h2.keep hk, h3.keep hk, h4.keep hk, h5.keep hk⟩
  | _ => exact h
theorem RepN.keep {i : Nat} {w w' : World} {own own' : Own} {pt : Nat} {v : Value} {k : Option Nx} (h : RepN w own i pt v k) (hk : Keeps i w own w' own') : RepN w' own' i pt v k := by
  cases k with
  | none => exact h
  | some x => cases x with
    | load cell k => obtain ⟨bh, bt, bc, vh, h1, h2, h3, h4, h5⟩ := h; exact ⟨bh, bt, bc, vh, h1, h2.keep hk, h3.keep hk, h4.keep hk, h5.keep hk⟩
    | swap cell old now k => obtain ⟨bh, bt, bc, bo, bn, vh, h1, h2, h3, h4, h5, h6, h7⟩ := h; exact ⟨bh, bt, bc, bo, bn, vh, h1, h2.keep hk, h3.keep hk, h4.keep hk, h5.keep hk, h6.keep hk, h7.keep hk⟩
    | once _ _ _ => exact h
    | nothing => exact h
/-- Where an index lies. -/
structure Pl where
  px : Nat
  pa : Nat
  pts : List Nat
def thC (px : Nat) (t : Th) (nv pv : Value) : Array Value :=
  #[pt_ px, .bool t.busy, .int .i64 t.op.kind, .int .i64 t.op.key, .int .i64 t.op.hi, .int .i64 t.op.val, .int .i64 t.call, .bool t.late, nv, .bool t.over, .int .i64 t.ans.err, .bool t.ans.ok, .int .i64 t.ans.key, .int .i64 t.ans.val, .int .i64 t.ans.n, pv]
/-- A thread, as it lies. -/
structure ThAt (w : World) (own : Own) (px i pt : Nat) (t : Th) (nv pv : Value) : Prop where
  blk : w.heap[pt]? = some (.cells (thC px t nv pv) 93 (0, 0))
  rep : RepN w own i pt nv t.next
  ps : PV w own pv t.ans.pairs
def ixC (pa : Nat) (S : Ix) (tv ov : Value) : Array Value :=
  #[pt_ pa, .int .i64 S.p.high, .int .i64 S.p.low, .int .i64 S.p.cont, .int .i64 S.p.uncont, .int .i64 S.p.multi, .int .i64 S.root, tv, .int .i64 S.calls, ov, .int .i64 S.steps, .int .i64 S.splits, .int .i64 S.joins]
def ptrs (l : List Nat) : List Value := l.map pt_
def intsV (l : List Int) : List Value := l.map (Value.int .i64)
/-- The index's own block and its rows. -/
structure XAt (w : World) (own : Own) (P : Pl) (S : Ix) (tv ov : Value) : Prop where
  blk : w.heap[P.px]? = some (.cells (ixC P.pa S tv ov) 97 (0, 0))
  row : w.ownsRow 0 90 1 tv P.pts.length (ptrs P.pts)
  rowo : ∀ b, tv.ownBlock = some b → own b = some .row
  ord : w.ownsRow 0 3 1 ov S.order.length (intsV S.order)
  ordo : ∀ b, ov.ownBlock = some b → own b = some .ord
/-- The index S lies in w; it is what the call that began in W has made. -/
structure IS (W w : World) (P : Pl) (own : Own) (S : Ix) : Prop where
  arena : OAt w (some ⟨P.pa, 0, none⟩) (some S.a) (fun b => own b = some .ar)
  below : Below W.heap.size W w
  mine : ∀ b o, own b = some o → W.heap.size ≤ b ∧ b < w.heap.size
  ix : ∃ tv ov, XAt w own P S tv ov
  ownix : own P.px = some .ix
  ownth : ∀ p ∈ P.pts, own p = some .th
  len : S.ths.length = P.pts.length
  nodup : P.pts.Nodup
  ths : ∀ i p, P.pts[i]? = some p → ∃ nv pv, ThAt w own P.px i p (S.th i) nv pv
/-- Blocks of nobody are as they were. -/
def FK (w : World) (own : Own) (w' : World) (own' : Own) : Prop := w.heap.size ≤ w'.heap.size ∧ ∀ b, b < w.heap.size → own b = none → own' b = none ∧ w'.heap[b]? = w.heap[b]?
theorem FK.refl (w : World) (own : Own) : FK w own w own := ⟨Nat.le_refl _, fun _ _ h => ⟨h, rfl⟩⟩
theorem FK.trans {w1 w2 w3 : World} {o1 o2 o3 : Own} (h : FK w1 o1 w2 o2) (k : FK w2 o2 w3 o3) : FK w1 o1 w3 o3 :=
  ⟨Nat.le_trans h.1 k.1, fun b hb ho => ⟨(k.2 b (Nat.lt_of_lt_of_le hb h.1) (h.2 b hb ho).1).1, ((k.2 b (Nat.lt_of_lt_of_le hb h.1) (h.2 b hb ho).1).2).trans (h.2 b hb ho).2⟩⟩
/-- What is behind a step: the index S, and blocks of nobody as they were. -/
def Ends (W : World) (P : Pl) (w : World) (own : Own) (S : Ix) (w' : World) : Prop := ∃ own', IS W w' P own' S ∧ FK w own w' own'
/-- All but the arena is as it was. -/
def Kp2 (w : World) (own : Own) (w' : World) (own' : Own) : Prop := w.heap.size ≤ w'.heap.size ∧ ∀ b, b < w.heap.size → own b ≠ some .ar → own' b = own b ∧ w'.heap[b]? = w.heap[b]?
end Go.Proofs.YtghjnkfocjjlnaaGreat
end
section
namespace Go.Proofs.YtghjnkfocjjlnaaGreat
set_option maxRecDepth 100000
open Go.RowKit
set_option linter.unusedVariables false
set_option linter.unusedSimpArgs false
def setO (own : Own) (b : Nat) (o : Ow) : Own := fun x => if x = b then some o else own x
theorem setO_same (own : Own) (b : Nat) (o : Ow) : setO own b o b = some o := by simp [setO]
theorem setO_ne (own : Own) {b x : Nat} (o : Ow) (h : x ≠ b) : setO own b o x = own x := by simp [setO, h]
theorem XAt.keep {w w' : World} {own own' : Own} {P : Pl} {S : Ix} {tv ov : Value} (h : XAt w own P S tv ov) (hx : own P.px = some .ix) (hk : ∀ b o, own b = some o → o ≠ .ar → own' b = some o ∧ w'.heap[b]? = w.heap[b]?) : XAt w' own' P S tv ov :=
  ⟨(hk _ _ hx (by decide)).2.trans h.blk, ownsRow_same h.row (fun b hb => (hk b _ (h.rowo b hb) (by decide)).2), fun b hb => (hk b _ (h.rowo b hb) (by decide)).1,
   ownsRow_same h.ord (fun b hb => (hk b _ (h.ordo b hb) (by decide)).2), fun b hb => (hk b _ (h.ordo b hb) (by decide)).1⟩
theorem ThAt.keep {w w' : World} {own own' : Own} {px i pt : Nat} {t : Th} {nv pv : Value} (h : ThAt w own px i pt t nv pv) (ht : own pt = some .th) (hk : ∀ b o, own b = some o → o ≠ .ar → own' b = some o ∧ w'.heap[b]? = w.heap[b]?) : ThAt w' own' px i pt t nv pv := by
  have hK : Keeps i w own w' own' := fun b hb => by
    rcases hb with hb | hb
    · obtain ⟨h1, h2⟩ := hk b _ hb (by decide); exact ⟨h1.trans hb.symm, h2⟩
    · obtain ⟨h1, h2⟩ := hk b _ hb (by simp); exact ⟨h1.trans hb.symm, h2⟩
  exact ⟨(hk _ _ ht (by decide)).2.trans h.blk, h.rep.keep hK, h.ps.keep hK⟩
/-- The arena may have turned; all else that has an owner is as it was. -/
theorem IS.change {W w w' : World} {P : Pl} {own own' : Own} {S : Ix} {a' : Ar} (h : IS W w P own S) (hb : Below W.heap.size W w') (hm : ∀ b o, own' b = some o → W.heap.size ≤ b ∧ b < w'.heap.size)
    (hA : OAt w' (some ⟨P.pa, 0, none⟩) (some a') (fun b => own' b = some .ar)) (hk : ∀ b o, own b = some o → o ≠ .ar → own' b = some o ∧ w'.heap[b]? = w.heap[b]?) : IS W w' P own' (S.arena a') where
  arena := hA
  below := hb
  mine := hm
  ix := by obtain ⟨tv, ov, hx⟩ := h.ix; obtain ⟨a1, a2, a3, a4, a5⟩ := hx.keep h.ownix hk; exact ⟨tv, ov, a1, a2, a3, a4, a5⟩
  ownix := (hk _ _ h.ownix (by decide)).1
  ownth := fun p hp => (hk _ _ (h.ownth p hp) (by decide)).1
  len := h.len
  nodup := h.nodup
  ths := fun i p hp => by obtain ⟨nv, pv, ht⟩ := h.ths i p hp; exact ⟨nv, pv, ht.keep (h.ownth p (List.mem_of_getElem? hp)) hk⟩
theorem IS.later {W w w' : World} {P : Pl} {own : Own} {S : Ix} (h : IS W w P own S) (hb : Below w.heap.size w w') : IS W w' P own S :=
  h.change (a' := S.a) (h.below.trans (hb.mono h.below.size)) (fun b o ho => ⟨(h.mine b o ho).1, Nat.lt_of_lt_of_le (h.mine b o ho).2 hb.size⟩) (h.arena.below hb)
    (fun b o ho _ => ⟨ho, hb.block b (h.mine b o ho).2⟩)
theorem IS.alloc {W w : World} {P : Pl} {own : Own} {S : Ix} (h : IS W w P own S) (o : Obj) : IS W (w.alloc o) P own S := h.later ((Below.refl _ _).alloc (Nat.le_refl _) _)
/-- A block of nobody gets an owner. -/
theorem IS.give {W w : World} {P : Pl} {own : Own} {S : Ix} (h : IS W w P own S) {b : Nat} (hf : own b = none) (hW : W.heap.size ≤ b) (hlt : b < w.heap.size) {o : Ow} (ho : o ≠ .ar) : IS W w P (setO own b o) S :=
  h.change (a' := S.a) h.below (fun x y hy => by
      by_cases e : x = b
      · subst e; exact ⟨hW, hlt⟩
      · rw [setO_ne _ _ e] at hy; exact h.mine x y hy)
    (by
      have e : (fun x => setO own b o x = some Ow.ar) = fun x => own x = some .ar := by
        funext x
        by_cases e : x = b
        · subst e; rw [setO_same, hf]; simp [ho]
        · rw [setO_ne _ _ e]
      rw [e]; exact h.arena)
    (fun x y hy _ => by
      have e : x ≠ b := by rintro rfl; rw [hf] at hy; cases hy
      rw [setO_ne _ _ e]; exact ⟨hy, rfl⟩)
theorem FK.give {w : World} {own : Own} {w' : World} {own' : Own} (h : FK w own w' own') {b : Nat} (hb : w.heap.size ≤ b) (o : Ow) : FK w own w' (setO own' b o) :=
  ⟨h.1, fun x hx hn => by rw [setO_ne _ _ (by omega)]; exact h.2 x hx hn⟩
theorem FK.later {w : World} {own : Own} {w1 w' : World} {own' : Own} (h : FK w own w1 own') (hb : Below w1.heap.size w1 w') : FK w own w' own' :=
  ⟨Nat.le_trans h.1 hb.size, fun x hx hn => ⟨(h.2 x hx hn).1, (hb.block x (Nat.lt_of_lt_of_le hx h.1)).trans (h.2 x hx hn).2⟩⟩
theorem Bx.give {w : World} {own : Own} {b x : Nat} {cs : Array Value} {t : TypeId} (h : Bx w own x cs t) (hf : own b = none) (o : Ow) : Bx w (setO own b o) x cs t :=
  ⟨by rw [setO_ne _ _ (by rintro rfl; have h1 := h.1; rw [hf] at h1; cases h1)]; exact h.1, h.2⟩
theorem Bx.new {w : World} {own : Own} {b : Nat} {cs : Array Value} {t : TypeId} (h : w.heap[b]? = some (.cells cs t (0, 0))) : Bx w (setO own b .ro) b cs t := ⟨setO_same _ _ _, h⟩
theorem Mx.new {w : World} {own : Own} {i b : Nat} {cs : Array Value} {t : TypeId} (h : w.heap[b]? = some (.cells cs t (0, 0))) : Mx w (setO own b (.mu i)) i b cs t := ⟨setO_same _ _ _, h⟩
theorem Keeps.give {i : Nat} {w : World} {own : Own} {b : Nat} (hf : own b = none) (o : Ow) : Keeps i w own w (setO own b o) := fun x hx => by
  have e : x ≠ b := by rintro rfl; rw [hf] at hx; simp at hx
  exact ⟨setO_ne _ _ e, rfl⟩
theorem Keeps.trans {i : Nat} {w1 w2 w3 : World} {o1 o2 o3 : Own} (h : Keeps i w1 o1 w2 o2) (k : Keeps i w2 o2 w3 o3) : Keeps i w1 o1 w3 o3 := fun b hb => by
  obtain ⟨h1, h2⟩ := h b hb
  obtain ⟨k1, k2⟩ := k b (by rw [h1]; exact hb)
  exact ⟨k1.trans h1, k2.trans h2⟩
theorem IS.keeps {W w w' : World} {P : Pl} {own : Own} {S : Ix} (h : IS W w P own S) (i : Nat) (hb : Below w.heap.size w w') : Keeps i w own w' own := fun b hx => by
  refine ⟨rfl, hb.block b ?_⟩
  rcases hx with hx | hx <;> exact (h.mine b _ hx).2
theorem Kp2.keeps {w w' : World} {own own' : Own} (h : Kp2 w own w' own') (hm : ∀ b o, own b = some o → b < w.heap.size) (i : Nat) : Keeps i w own w' own' := fun b hx => by
  rcases hx with hx | hx
  · obtain ⟨h1, h2⟩ := h.2 b (hm b _ hx) (by rw [hx]; decide); exact ⟨h1, h2⟩
  · obtain ⟨h1, h2⟩ := h.2 b (hm b _ hx) (by rw [hx]; simp); exact ⟨h1, h2⟩
theorem Kp2.fk {w w' : World} {own own' : Own} (h : Kp2 w own w' own') : FK w own w' own' :=
  ⟨h.1, fun b hb ho => by obtain ⟨h1, h2⟩ := h.2 b hb (by rw [ho]; simp); exact ⟨h1.trans ho, h2⟩⟩
/-- The arena turns. -/
theorem IS.made {W w w' : World} {P : Pl} {own : Own} {S : Ix} {a' : Ar} (h : IS W w P own S) (hm : Made (fun b => own b = some .ar) w (some ⟨P.pa, 0, none⟩) (some a') w') : ∃ own', IS W w' P own' (S.arena a') ∧ Kp2 w own w' own' := by
  obtain ⟨F', o', g'⟩ := Made.out hm
  classical
  have hlt := o'.lt
  refine ⟨fun b => if F' b then some .ar else if own b = some .ar then none else own b, h.change (h.below.trans (g'.1.below (F := fun b => own b = some .ar) (fun b hb => (h.mine b _ hb).1) h.below.size)) ?_ ?_ ?_, g'.size, ?_⟩
  · intro b o ho
    have ho : (if F' b then some Ow.ar else if own b = some .ar then none else own b) = some o := ho
    by_cases hF : F' b
    · refine ⟨?_, hlt b hF⟩
      rcases g'.2 b hF with h1 | h1
      · exact (h.mine b _ h1).1
      · exact Nat.le_trans h.below.size h1
    · rw [if_neg hF] at ho
      by_cases ha : own b = some .ar
      · rw [if_pos ha] at ho; cases ho
      · rw [if_neg ha] at ho; exact ⟨(h.mine b o ho).1, Nat.lt_of_lt_of_le (h.mine b o ho).2 g'.size⟩
  · have e : (fun b => (if F' b then some Ow.ar else if own b = some .ar then none else own b) = some .ar) = F' := by
      funext b
      by_cases hF : F' b
      · simp [hF]
      · by_cases ha : own b = some .ar <;> simp [hF, ha]
    rw [e]; exact o'
  · intro b o ho hne
    have hn : ¬ own b = some .ar := by rw [ho]; simpa using hne
    have hF : ¬ F' b := fun hF => by
      rcases g'.2 b hF with h1 | h1
      · exact hn h1
      · have := (h.mine b o ho).2; omega
    exact ⟨by show (if F' b then some Ow.ar else if own b = some .ar then none else own b) = _; rw [if_neg hF, if_neg hn, ho], g'.1.block b (h.mine b o ho).2 hn⟩
  · intro b hb hn
    have hF : ¬ F' b := fun hF => by
      rcases g'.2 b hF with h1 | h1
      · exact hn h1
      · omega
    exact ⟨by show (if F' b then some Ow.ar else if own b = some .ar then none else own b) = _; rw [if_neg hF, if_neg hn], g'.1.block b hb hn⟩
/-- Blocks of nobody may turn. -/
theorem IS.free {W w w' : World} {P : Pl} {own : Own} {S : Ix} (h : IS W w P own S) (hb : Below W.heap.size W w') (hs : w.heap.size ≤ w'.heap.size) (hk : ∀ b o, own b = some o → w'.heap[b]? = w.heap[b]?) : IS W w' P own S :=
  h.change (a' := S.a) hb (fun b o ho => ⟨(h.mine b o ho).1, Nat.lt_of_lt_of_le (h.mine b o ho).2 hs⟩) (h.arena.same (fun b hb => hk b _ hb) hs) (fun b o ho _ => ⟨ho, hk b o ho⟩)
theorem Ix.mod_th (S : Ix) (i : Nat) (f : Th → Th) (hi : i < S.ths.length) : (S.mod i f).th i = f (S.th i) := by
  simp [Ix.mod, Ix.th, List.getD_eq_getElem?_getD, hi]
theorem Ix.mod_other (S : Ix) (i j : Nat) (f : Th → Th) (hij : j ≠ i) : (S.mod i f).th j = S.th j := by
  simp only [Ix.mod, Ix.th, List.getD_eq_getElem?_getD]
  rw [List.getElem?_set_ne (by omega)]
theorem IS.lt {W w : World} {P : Pl} {own : Own} {S : Ix} (h : IS W w P own S) {i p : Nat} (hp : P.pts[i]? = some p) : i < S.ths.length := by
  rw [h.len]; exact (List.getElem?_eq_some_iff.1 hp).1
/-- A thread turns: its block alone is written. -/
theorem IS.thread {W w w' : World} {P : Pl} {own : Own} {S : Ix} (h : IS W w P own S) {i p : Nat} (hp : P.pts[i]? = some p) (f : Th → Th) (nv pv : Value)
    (hblk : w'.heap[p]? = some (.cells (thC P.px (f (S.th i)) nv pv) 93 (0, 0))) (hrep : RepN w own i p nv (f (S.th i)).next) (hps : PV w own pv (f (S.th i)).ans.pairs)
    (hb : Below W.heap.size W w') (hs : w'.heap.size = w.heap.size) (hoth : ∀ b, b ≠ p → w'.heap[b]? = w.heap[b]?) : IS W w' P own (S.mod i f) := by
  have hown : own p = some .th := h.ownth p (List.mem_of_getElem? hp)
  have hne : ∀ b o, own b = some o → o ≠ .th → w'.heap[b]? = w.heap[b]? := fun b o ho hn => hoth b (by rintro rfl; rw [hown] at ho; exact hn (Option.some.inj ho).symm)
  have hK : ∀ j, Keeps j w own w' own := fun j b hx => by
    refine ⟨rfl, ?_⟩
    rcases hx with hx | hx <;> exact hne b _ hx (by simp)
  refine ⟨h.arena.same (fun b hb => hne b _ hb (by decide)) (by omega), hb, fun b o ho => ⟨(h.mine b o ho).1, by rw [hs]; exact (h.mine b o ho).2⟩, ?_, h.ownix, h.ownth, by simp [Ix.mod, h.len], h.nodup, ?_⟩
  · obtain ⟨tv, ov, hx⟩ := h.ix
    exact ⟨tv, ov, (hne _ _ h.ownix (by decide)).trans hx.blk, ownsRow_same hx.row (fun b hb => hne b _ (hx.rowo b hb) (by decide)), hx.rowo, ownsRow_same hx.ord (fun b hb => hne b _ (hx.ordo b hb) (by decide)), hx.ordo⟩
  · intro j q hq
    by_cases e : j = i
    · subst e
      rw [hp] at hq
      obtain rfl := Option.some.inj hq
      rw [Ix.mod_th _ _ _ (h.lt hp)]
      exact ⟨nv, pv, hblk, hrep.keep (hK j), hps.keep (hK j)⟩
    · rw [Ix.mod_other _ _ _ _ e]
      obtain ⟨nv', pv', ht⟩ := h.ths j q hq
      have hqp : q ≠ p := by
        rintro rfl
        exact e ((List.getElem?_inj (List.getElem?_eq_some_iff.1 hq).1 h.nodup).1 (hq.trans hp.symm))
      exact ⟨nv', pv', (hoth q hqp).trans ht.blk, ht.rep.keep (hK j), ht.ps.keep (hK j)⟩
/-- The index's own numbers turn: its block alone is written. -/
theorem IS.index {W w w' : World} {P : Pl} {own : Own} {S S' : Ix} (h : IS W w P own S) (ha : S'.a = S.a) (ht : S'.ths = S.ths) (ho : S'.order = S.order)
    (hblk : ∀ tv ov, w.heap[P.px]? = some (.cells (ixC P.pa S tv ov) 97 (0, 0)) → w'.heap[P.px]? = some (.cells (ixC P.pa S' tv ov) 97 (0, 0)))
    (hb : Below W.heap.size W w') (hs : w'.heap.size = w.heap.size) (hoth : ∀ b, b ≠ P.px → w'.heap[b]? = w.heap[b]?) : IS W w' P own S' := by
  have hne : ∀ b o, own b = some o → o ≠ .ix → w'.heap[b]? = w.heap[b]? := fun b o ho hn => hoth b (by rintro rfl; rw [h.ownix] at ho; exact hn (Option.some.inj ho).symm)
  have hK : ∀ j, Keeps j w own w' own := fun j b hx => by
    refine ⟨rfl, ?_⟩
    rcases hx with hx | hx <;> exact hne b _ hx (by simp)
  refine ⟨by rw [ha]; exact h.arena.same (fun b hb => hne b _ hb (by decide)) (by omega), hb, fun b o ho => ⟨(h.mine b o ho).1, by rw [hs]; exact (h.mine b o ho).2⟩, ?_, h.ownix, h.ownth, by rw [ht]; exact h.len, h.nodup, ?_⟩
  · obtain ⟨tv, ov, hx⟩ := h.ix
    exact ⟨tv, ov, hblk tv ov hx.blk, ownsRow_same hx.row (fun b hb => hne b _ (hx.rowo b hb) (by decide)), hx.rowo, by rw [ho]; exact ownsRow_same hx.ord (fun b hb => hne b _ (hx.ordo b hb) (by decide)), hx.ordo⟩
  · intro j q hq
    obtain ⟨nv', pv', ht'⟩ := h.ths j q hq
    rw [show S'.th j = S.th j by simp [Ix.th, ht]]
    exact ⟨nv', pv', (hne q _ (h.ownth q (List.mem_of_getElem? hq)) (by decide)).trans ht'.blk, ht'.rep.keep (hK j), ht'.ps.keep (hK j)⟩
theorem setCell_other {w : World} {p k b : Nat} (v : Value) (h : b ≠ p) : (w.setCell ⟨p, k, none⟩ v).heap[b]? = w.heap[b]? := heap_setCell_other w _ _ _ (by simpa using h)
theorem IS.set_below {W w : World} {P : Pl} {own : Own} {S : Ix} (h : IS W w P own S) {b : Nat} {o : Ow} (ho : own b = some o) (k : Nat) (v : Value) : Below W.heap.size W (w.setCell ⟨b, k, none⟩ v) :=
  h.below.setCell (h.mine b o ho).1 v
/-- What a walk reads of the index: where its arena is, where a thread's is. -/
theorem IS.thx {W w : World} {P : Pl} {own : Own} {S : Ix} (h : IS W w P own S) {i p : Nat} (hp : P.pts[i]? = some p) : w.cell? ⟨p, 0, none⟩ = some (pt_ P.px) := by
  obtain ⟨nv, pv, ht⟩ := h.ths i p hp; exact cell_blk ht.blk rfl
theorem IS.xa {W w : World} {P : Pl} {own : Own} {S : Ix} (h : IS W w P own S) : w.cell? ⟨P.px, 0, none⟩ = some (pt_ P.pa) := by
  obtain ⟨tv, ov, hx⟩ := h.ix; exact cell_blk hx.blk rfl
theorem IS.th_free {W w : World} {P : Pl} {own : Own} {S : Ix} (h : IS W w P own S) {i p : Nat} (hp : P.pts[i]? = some p) (k : Nat) : w.frozen? ⟨p, k, none⟩ = false := by
  obtain ⟨nv, pv, ht⟩ := h.ths i p hp; exact free_blk ht.blk
theorem IS.th_next {W w : World} {P : Pl} {own : Own} {S : Ix} (h : IS W w P own S) {i p : Nat} (hp : P.pts[i]? = some p) : ∃ nv, w.cell? ⟨p, 8, none⟩ = some nv := by
  obtain ⟨nv, pv, ht⟩ := h.ths i p hp; exact ⟨nv, cell_blk ht.blk rfl⟩
theorem IS.th_lt {W w : World} {P : Pl} {own : Own} {S : Ix} (h : IS W w P own S) {i p : Nat} (hp : P.pts[i]? = some p) : p < w.heap.size := (h.mine p _ (h.ownth p (List.mem_of_getElem? hp))).2
theorem IS.px_lt {W w : World} {P : Pl} {own : Own} {S : Ix} (h : IS W w P own S) : P.px < w.heap.size := (h.mine P.px _ h.ownix).2
/-- A next step is laid. -/
theorem IS.next {W w : World} {P : Pl} {own : Own} {S : Ix} (h : IS W w P own S) {i p : Nat} (hp : P.pts[i]? = some p) {n : Nx} {nv : Value} (hr : RepN w own i p nv (some n)) : IS W (w.setCell ⟨p, 8, none⟩ nv) P own (S.next i n) := by
  obtain ⟨nv', pv, ht⟩ := h.ths i p hp
  refine h.thread hp _ nv pv ?_ hr ht.ps (h.set_below (h.ownth p (List.mem_of_getElem? hp)) _ _) (by simp [World.setCell]) (fun b hb => setCell_other _ hb)
  rw [heap_setCell_same w p 8 _ _ _ ht.blk]; rfl
theorem IS.late {W w : World} {P : Pl} {own : Own} {S : Ix} (h : IS W w P own S) {i p : Nat} (hp : P.pts[i]? = some p) : IS W (w.setCell ⟨p, 7, none⟩ (.bool true)) P own (S.late i) := by
  obtain ⟨nv, pv, ht⟩ := h.ths i p hp
  refine h.thread hp _ nv pv ?_ ht.rep ht.ps (h.set_below (h.ownth p (List.mem_of_getElem? hp)) _ _) (by simp [World.setCell]) (fun b hb => setCell_other _ hb)
  rw [heap_setCell_same w p 7 _ _ _ ht.blk]; rfl
/-- Function values are function values. -/
def IsFn (v : Value) : Prop := ∃ f fi ca, v = .func (.func f) fi ca
theorem Rep0.fn {w : World} {own : Own} {pt : Nat} {v : Value} {k : K0} (h : Rep0 w own pt v k) : IsFn v := by
  cases k with
  | gets => exact ⟨_, _, _, h⟩
  | ends => exact ⟨_, _, _, h⟩
  | spans => obtain ⟨_, h, _⟩ := h; exact ⟨_, _, _, h⟩
theorem RepU.fn {w : World} {own : Own} {pt : Nat} {v : Value} {k : KU} (h : RepU w own pt v k) : IsFn v := by
  cases k with
  | upd => exact ⟨_, _, _, h⟩
  | looks _ _ => obtain ⟨_, _, _, _, h, _⟩ := h; exact ⟨_, _, _, h⟩
  | leaf _ _ _ => exact h.elim
  | ret _ => obtain ⟨_, _, _, h, _⟩ := h; exact ⟨_, _, _, h⟩
  | retS _ => exact h.elim
theorem RepF.fn {w : World} {own : Own} {pt : Nat} {v : Value} {k : KF} (h : RepF w own pt v k) : IsFn v := by
  cases k with
  | looks _ _ => obtain ⟨_, _, _, _, _, h, _⟩ := h; exact ⟨_, _, _, h⟩
  | upd => obtain ⟨_, h, _⟩ := h; exact ⟨_, _, _, h⟩
  | leaf _ _ _ => exact h.elim
  | joins _ _ => obtain ⟨_, _, _, _, h, _⟩ := h; exact ⟨_, _, _, h⟩
theorem RepS.fn {w : World} {own : Own} {pt : Nat} {v : Value} {k : KS} (h : RepS w own pt v k) : IsFn v := by
  cases k with
  | upd _ => obtain ⟨_, _, h, _⟩ := h; exact ⟨_, _, _, h⟩
  | joins _ _ => exact h.elim
  | leaf _ _ _ _ => exact h.elim
theorem RepI.fn {w : World} {own : Own} {i pt : Nat} {v : Value} {k : KI} (h : RepI w own i pt v k) : IsFn v := by
  cases k with
  | down _ _ _ => obtain ⟨_, _, _, _, _, h, _⟩ := h; exact ⟨_, _, _, h⟩
  | _ => exact h.elim
theorem RepW.fn {w : World} {own : Own} {i pt : Nat} {v : Value} {k : KW} (h : RepW w own i pt v k) : IsFn v := by
  cases k with
  | upd _ _ => obtain ⟨_, _, _, _, h, _⟩ := h; exact ⟨_, _, _, h⟩
  | _ => exact h.elim
end Go.Proofs.YtghjnkfocjjlnaaGreat
end
section
namespace Go.Proofs.YtghjnkfocjjlnaaGreat
set_option maxRecDepth 100000
open Go.RowKit Go.Proofs.YtghjnkfocjjlnaaGreatW.PrintWords Go.Proofs.YtghjnkfocjjlnaaGreatW.PrintLast
set_option linter.unusedVariables false
set_option linter.unusedSimpArgs false
/-- What a function value does, called with args. -/
def CallsV (v : Value) (args : Array Value) (w : World) (R : Ending → World → Prop) : Prop :=
  ∃ f first cap fn, v = .func (.func f) first cap ∧ Tryz.prog.funcs[f]? = some fn ∧ (fn.name == "runtime.NumGoroutine") = false ∧ fn.body.isSome = true ∧ Calls Tryz.prog f (first ++ args ++ cap) w R
theorem CallsV.mono {v : Value} {args : Array Value} {w : World} {R R' : Ending → World → Prop} (h : CallsV v args w R) (hR : ∀ e w', R e w' → R' e w') : CallsV v args w R' := by
  obtain ⟨f, first, cap, fn, h1, h2, h3, h4, h5⟩ := h
  exact ⟨f, first, cap, fn, h1, h2, h3, h4, h5.mono hR⟩
theorem run_v {o : Oper} {a : Act} {w : World} {f : FuncId} {first cap : Array Value} {fn : Func} (hf : Tryz.prog.funcs[f]? = some fn) (hname : (fn.name == "runtime.NumGoroutine") = false) (hb : fn.body.isSome = true) {s : Operand} {aps : Array Operand} {ts : Array TypeId} {args : Array Value}
    (hop : o.op = .call { callee := .value s, args := aps, argTypes := ts }) (hs : a.eval s = .func (.func f) first cap) (hargs : aps.map a.eval = args) : (execOp a.eval o).run Tryz.prog w = .ok (.enter f (first ++ args ++ cap)) w := by
  have he := enters_ hf hname hb (first ++ args ++ cap) w
  unfold execOp
  rw [Array.append_assoc] at he
  simp [hop, resolve, Deferred.ofValue, invoke, hs, hargs, he]
theorem step_v {ops : Array Oper} {Q : Exit → Act → World → Prop} {oi : Oper} {N : Option Tmp} {a : Act} {w : World} {K : Act → World → Prop} (hw : Region.wanted oi (yielded ops a.tmps) = true) (hN : oi.dst = N) (s : Operand) {aps : Array Operand} {ts : Array TypeId} (v : Value) (args : Array Value)
    (hop : oi.op = .call { callee := .value s, args := aps, argTypes := ts }) (hs : a.eval s = v) (hargs : aps.map a.eval = args)
    (h : CallsV v args w fun e w' => ∃ r, e = .returned r ∧ K (a.put N r) w') : if Region.wanted oi (yielded ops a.tmps) = true then Oper.wp Tryz.prog oi a w K Q else K (a.put N undef) w := by
  obtain ⟨f, first, cap, fn, rfl, h2, h3, h4, h5⟩ := h
  exact call_ f _ hw hN (run_v h2 h3 h4 hop hs hargs) h5
end Go.Proofs.YtghjnkfocjjlnaaGreat
end
