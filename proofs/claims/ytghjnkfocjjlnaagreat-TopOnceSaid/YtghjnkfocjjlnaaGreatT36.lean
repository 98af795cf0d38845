/- The index's Tree, where there is one leaf; what a player's pick asks there. -/
/- Threads that add one key: the plan of the script, and what it ends with. -/
/- How an index with nothing begins; what the history of threads that add one key says at the end. -/
/- A script of three updates, run by two threads, step by step: what awake runs. -/
import Derived.Test.YtghjnkfocjjlnaaGreatT35
set_option linter.unusedSimpArgs false
set_option linter.unusedVariables false
section
namespace Go.Proofs.YtghjnkfocjjlnaaGreat
set_option maxRecDepth 100000
open Go.RowKit Go.Proofs.YtghjnkfocjjlnaaGreatW.PrintWords Go.Proofs.YtghjnkfocjjlnaaGreatW.PrintLast
set_option linter.unusedVariables false
set_option linter.unusedSimpArgs false
theorem cell_same {w w' : World} {b k : Nat} (h : w'.heap[b]? = w.heap[b]?) : w'.cell? ⟨b, k, none⟩ = w.cell? ⟨b, k, none⟩ := by
  unfold World.cell?; rw [h]
/-- One leaf, as the index tells it. -/
def TQ1 (l : List Pr) (st : Int) (w : World) (g nn cap : Nat) (TB : Nat → Prop) : Prop :=
  nn = 1 ∧ ∃ pad pc, Leaf1 w g cap pad pc l.length l st ∧ TB = fun b => b = g ∨ (l ≠ [] ∧ ∃ x, pad = some x ∧ x.block = b)
theorem allP_all {l : List Pr} (h : ∀ p ∈ l, -9223372036854775808 ≤ p.1 ∧ p.1 ≤ 9223372036854775807) : allP l = l := by
  show List.filter _ l = l
  exact List.filter_eq_self.2 fun p hp => by have := h p hp; simp; omega
theorem treeC_one {W : World} {P : Pl} {S : Ix} {v : Int} {a1 : Ar} {l : List Pr} {st r : Int} (hld : loadO (some S.a) S.root = (v, some a1)) (hrec : RecB a1 r v l st) (hs : Sorted l) (hlen : l.length ≤ 60000) (ha : a1.slots.length ≤ 60000)
    (hk : ∀ p ∈ l, -9223372036854775808 ≤ p.1 ∧ p.1 ≤ 9223372036854775807) : TreeC W P S (S.arena a1) (TQ1 l st) where
  call := fun w own is => by
    obtain ⟨t, hb, ht⟩ := RecB.base (S := S.arena a1) hrec
    have hlt : t < 1000000 := by
      have h1 := ht.le.2
      have h2 : (S.arena a1).a.slots.length = a1.slots.length := rfl
      omega
    have h := xtree1_any (S := S) (l := l) is (by rw [hld]; show ((S.arena a1).base v).kind = 3; rw [hb]) (by rw [hld]; show Tr a1 ((S.arena a1).base v).treap l; rw [hb]; exact ht) hs (by rw [hld]; show ((S.arena a1).base v).treap < 1000000; rw [hb]; exact hlt) hlen
    rw [hld] at h
    refine h.mono ?_
    rintro e w' ⟨own', g, cap, pad, pc, n, he, hn, is', fk', hr, hp, hg, hq⟩
    rw [allP_all hk] at hn hp
    have hst : ((S.ofA (v, some a1).2).base (v, some a1).1).stat = st := by show ((S.arena a1).base v).stat = st; rw [hb]
    rw [hst] at hr
    have hL : Leaf1 w' g cap pad pc l.length l st := ⟨by rw [← hn]; exact hr, hp, rfl⟩
    refine ⟨own', g, 1, cap, _, he, is', fk', ⟨rfl, pad, pc, hL, rfl⟩, fun b hB => ?_⟩
    rcases hB with rfl | ⟨hl, x, hx, rfl⟩
    · exact ⟨hg, hL.glt⟩
    · exact ⟨hq x hx, hL.plt hx hl⟩
  same := fun w w' g nn cap TB h hk => by
    obtain ⟨h1, pad, pc, hL, rfl⟩ := h
    refine ⟨h1, pad, pc, ⟨ownsRow_same hL.row (fun b hb => hk b (.inl (by have e : g = b := Option.some.inj hb; exact e.symm))), ?_, rfl⟩, rfl⟩
    by_cases hl : l = []
    · exact ⟨.inl hl, hL.ps.room, hL.ps.most⟩
    · refine ⟨.inr ?_, hL.ps.room, hL.ps.most⟩
      obtain ⟨b, off, e, hc⟩ := hL.ps.at2 (List.length_pos_iff.2 hl)
      have hb := hk b (.inr ⟨hl, _, e, rfl⟩)
      exact ⟨b, off, e, fun j hj => by rw [cell_same hb, cell_same hb]; exact hc j hj⟩
  order := rfl
/-- What a step asks, where there is one leaf. -/
theorem okn_upd {S : Ix} {i : Nat} {r key : Int} {l : List Pr} {s : Int} (hc : isCell (some S.a) r = true) (hb : RecB S.a r (holds S.a r) l s) (hi : i < S.ths.length) (hk : (S.th i).op.kind = 1 ∨ (S.th i).op.kind = 2 ∨ (S.th i).op.kind = 3) : OKN (S.rest i) i (.load r (.down (fnd r) key .upd)) := by
  have e : loadO (some (S.rest i).a) r = (holds S.a r, some (stepA S.a)) := load_cell hc
  obtain ⟨t, hbase, _⟩ := RecB.base (S := (S.rest i).arena (stepA S.a)) (hb.ek (Ek.step _))
  unfold OKN
  dsimp only
  rw [e]
  unfold OKI
  refine ⟨?_, ?_, ?_⟩
  · show kindO (some (stepA S.a)) (holds S.a r) ≠ 2
    rw [(hb.ek (Ek.step _)).sub]; decide
  · show (((S.rest i).arena (stepA S.a)).base (holds S.a r)).kind = 3
    rw [hbase]
  · have h1 := (Upd.rest S i).self hi
    show ((S.rest i).th i).op.kind = 1 ∨ _
    rw [show (((S.rest i).ofA (holds S.a r, some (stepA S.a)).2).th i) = (S.rest i).th i from rfl, h1]
    exact hk
theorem okn_get {S : Ix} {i : Nat} {r key : Int} {l : List Pr} {s : Int} (hc : isCell (some S.a) r = true) (hb : RecB S.a r (holds S.a r) l s) (ho : S.order.length ≤ 1000000) : OKN (S.rest i) i (.load r (.down (fnd r) key (.looks key .gets))) := by
  have e : loadO (some (S.rest i).a) r = (holds S.a r, some (stepA S.a)) := load_cell hc
  obtain ⟨t, hbase, _⟩ := RecB.base (S := (S.rest i).arena (stepA S.a)) (hb.ek (Ek.step _))
  unfold OKN
  dsimp only
  rw [e]
  unfold OKI
  refine ⟨?_, ?_, ?_, rfl, ho⟩
  · show kindO (some (stepA S.a)) (holds S.a r) ≠ 2
    rw [(hb.ek (Ek.step _)).sub]; decide
  · show (((S.rest i).arena (stepA S.a)).base (holds S.a r)).kind = 3
    rw [hbase]
  · show r = (((S.rest i).arena (stepA S.a)).base (holds S.a r)).home
    rw [hbase]
theorem okn_joins {S : Ix} {i : Nat} {r key : Int} {l : List Pr} {s : Int} {b : BaseR} {a : AnsR} (hc : isCell (some S.a) r = true) (hb : RecB S.a r (holds S.a r) l s) : OKN (S.rest i) i (.load r (.down (fnd r) key (.joins b (.ret a)))) := by
  have e : loadO (some (S.rest i).a) r = (holds S.a r, some (stepA S.a)) := load_cell hc
  unfold OKN
  dsimp only
  rw [e]
  unfold OKI
  refine ⟨?_, rfl⟩
  show kindO (some (stepA S.a)) (holds S.a r) ≠ 2
  rw [(hb.ek (Ek.step _)).sub]; decide
theorem okn_swap {S : Ix} {i : Nat} {r old now : Int} {l : List Pr} {s : Int} {a : AnsR} (hc : isCell (some S.a) r = true) (hb : RecB S.a r now l s) (hl : l.length < 2) (ho : S.order.length ≤ 1000000) : OKN (S.rest i) i (.swap r old now (.upd now a)) := by
  unfold OKN
  dsimp only
  have e : swapO (some (S.rest i).a) r old now = if holds S.a r = old then (true, some (putA (stepA S.a) r now)) else (false, some (stepA S.a)) := by
    show (if isCell (some S.a) r = true then _ else _) = _
    rw [if_pos hc]; rfl
  rw [e]
  by_cases h : holds S.a r = old
  · rw [if_pos h]
    intro _
    refine ⟨ho, ?_⟩
    obtain ⟨t, hbase, htr⟩ := RecB.base (S := (S.rest i).arena (putA (stepA S.a) r now)) (hb.ek ((Ek.step _).trans (Ek.put (by exact hc))))
    show (halfO (some (putA (stepA S.a) r now)) (((S.rest i).arena (putA (stepA S.a) r now)).base now).treap).2.2.2.1 ≠ 0
    have hh : halfO (some (putA (stepA S.a) r now)) t = (0, 0, 0, 3, some (putA (stepA S.a) r now)) := halfO_few htr (by omega) hl
    rw [hbase, hh]
    show (3 : Int) ≠ 0
    decide
  · rw [if_neg h]
    intro e
    cases e
end Go.Proofs.YtghjnkfocjjlnaaGreat
end
section
namespace Go.Proofs.YtghjnkfocjjlnaaGreat
set_option maxRecDepth 100000
open Go.RowKit Go.Proofs.YtghjnkfocjjlnaaGreatW.PrintWords Go.Proofs.YtghjnkfocjjlnaaGreatW.PrintLast
set_option linter.unusedVariables false
set_option linter.unusedSimpArgs false
theorem any_iff (Y : Py) (t : Nat) : Y.any t = true ↔ (Y.S.th t).busy = true ∨ Y.left.getD t [] ≠ [] := by
  unfold Py.any
  cases (Y.S.th t).busy <;> cases Y.left.getD t [] <;> simp
theorem mu_le {n : Nat} {key r : Int} {l : List Pr} {Y : Py} (h : Inv n key r l Y) (i : Nat) : mu r i Y ≤ 16 := by
  unfold mu
  by_cases hi : i < n
  · have hl : (Y.left.getD i []).length ≤ 2 := by
      cases h.ths i hi with
      | idle2 _ _ h2 => rw [h2]; simp
      | idle1 _ _ h2 => rw [h2]; simp
      | idle0 _ _ h2 => rw [h2]; simp
      | s0 _ h2 => rw [h2]; simp
      | s1 _ _ _ _ _ _ h2 => rw [h2]; simp
      | s2 _ _ _ h2 => rw [h2]; simp
      | s3 _ h2 => rw [h2]; simp
    split
    · split
      · omega
      · split <;> omega
      · omega
    · omega
  · have h1 : Y.left.getD i [] = [] := by rw [List.getD_eq_getElem?_getD, List.getElem?_eq_none (by rw [h.nl]; omega)]; rfl
    have h2 : Y.S.th i = th0 := by unfold Ix.th; rw [List.getD_eq_getElem?_getD, List.getElem?_eq_none (by rw [h.nth]; omega)]; rfl
    rw [h1, h2]
    simp [th0]
/-- What a thread at work asks of the walk. -/
theorem Inv.asks {n : Nat} {key r : Int} {l : List Pr} {Y : Py} {i : Nat} (h : Inv n key r l Y) (hi : i < n) (hb : (Y.S.th i).busy = true) (ho : Y.S.order.length ≤ 1000000) : ∃ k, (Y.S.th i).next = some k ∧ OKN (Y.S.rest i) i k := by
  have hin : i < Y.S.ths.length := by rw [h.nth]; exact hi
  obtain ⟨s, hbase, _⟩ := h.base
  cases h.ths i hi with
  | idle2 k1 => rw [hb] at k1; cases k1
  | idle1 k1 => rw [hb] at k1; cases k1
  | idle0 k1 => rw [hb] at k1; cases k1
  | s0 k1 k2 k3 k4 k5 => exact ⟨_, k5, okn_upd h.cell hbase hin (by rw [k3]; exact .inr (.inl rfl))⟩
  | s1 old now s0 s1 l0 k1 k2 k3 k4 k5 k6 kok k7 k8 =>
    refine ⟨_, k5, okn_swap h.cell k6 ?_ ho⟩
    rcases k8 with rfl | ⟨f, rfl⟩
    · rw [(doL_add (key := key) i).1]; simp
    · rw [(doL_had i).1]; simp
  | s2 b ans k1 k2 k3 k4 k5 => exact ⟨_, k5, okn_joins h.cell hbase⟩
  | s3 k1 k2 k3 k4 k5 => exact ⟨_, k5, okn_get h.cell hbase ho⟩
/-- A pick. -/
theorem Inv.pick {n : Nat} {key r : Int} {l : List Pr} {Y : Py} {i : Nat} (h : Inv n key r l Y) (hi : i < n) (ha : Y.any i = true) :
    ∃ l', Inv n key r l' (Y.pick i) ∧ mu r i (Y.pick i) < mu r i Y ∧ (Y.pick i).h.length ≤ Y.h.length + 2 ∧ (Y.pick i).S.order.length ≤ Y.S.order.length + 1 ∧ (∀ j, j ≠ i → (Y.pick i).S.th j = Y.S.th j ∧ (Y.pick i).left.getD j [] = Y.left.getD j []) ∧
      ((Y.begun i).S.th i).busy = true ∧ (∃ l1, Inv n key r l1 (Y.begun i)) ∧ (Y.begun i).S.order = Y.S.order ∧ ((((Y.begun i).stepped i).S.th i).busy = false → (((Y.begun i).stepped i).S.th i).over = true ∧ (((Y.begun i).stepped i).S.th i).ans.pairs = []) := by
  have hp : Y.pick i = ((Y.begun i).stepped i).told i := by unfold Py.pick; rw [if_pos ha]
  rw [hp]
  cases hb : (Y.S.th i).busy with
  | true =>
    have hbg : Y.begun i = Y := begun_busy hb
    rw [hbg]
    obtain ⟨l', _, h1, h2, h3, h4, h5, h6⟩ := h.step hi hb
    exact ⟨l', h1, h2, by omega, h4, fun j hj => ⟨(h6 j hj).1, by rw [(h6 j hj).2]⟩, hb, ⟨l, h⟩, rfl, h5⟩
  | false =>
    have hl : Y.left.getD i [] ≠ [] := by
      rcases (any_iff Y i).1 ha with h1 | h1
      · rw [hb] at h1; cases h1
      · exact h1
    obtain ⟨g1, g2, g3, g4, g5, g6, _⟩ := h.begun hi hb hl
    obtain ⟨l', _, h1, h2, h3, h4, h5, h6⟩ := g1.step hi g2
    exact ⟨l', h1, by omega, by omega, by rw [g5] at h4; exact h4, fun j hj => ⟨(h6 j hj).1.trans (g6 j hj).1, by rw [(h6 j hj).2]; exact (g6 j hj).2⟩, g2, ⟨l, g1⟩, g5, h5⟩
theorem Inv.ok {n : Nat} {key r : Int} {l : List Pr} {Y : Py} {i : Nat} (h : Inv n key r l Y) (hi : i < n) (hh : Y.h.length ≤ 999998) (ho : Y.S.order.length ≤ 1000000) : PickOK Y i where
  op := fun op lf hb hlf => by
    have hk : op = addO1 key i ∨ op = getO1 key := by
      cases h.ths i hi with
      | idle2 _ _ h2 => rw [h2] at hlf; injection hlf with h3; exact .inl h3.symm
      | idle1 _ _ h2 => rw [h2] at hlf; injection hlf with h3; exact .inr h3.symm
      | idle0 _ _ h2 => rw [h2] at hlf; cases hlf
      | s0 h1 => rw [hb] at h1; cases h1
      | s1 _ _ _ _ _ h1 => rw [hb] at h1; cases h1
      | s2 _ _ h1 => rw [hb] at h1; cases h1
      | s3 h1 => rw [hb] at h1; cases h1
    rcases hk with rfl | rfl
    · exact .inr (.inl rfl)
    · exact .inr (.inr (.inr rfl))
  busy := fun ha => by obtain ⟨_, _, _, _, _, _, h1, _⟩ := h.pick hi ha; exact h1
  next := fun ha => by
    obtain ⟨_, _, _, _, _, _, h1, ⟨l1, h2⟩, h3, _⟩ := h.pick hi ha
    exact h2.asks hi h1 (by rw [h3]; exact ho)
  over := fun ha hb => by
    obtain ⟨_, _, _, _, _, _, _, _, _, h1⟩ := h.pick hi ha
    obtain ⟨h2, h3⟩ := h1 hb
    exact ⟨h2, by rw [h3]; simp⟩
  len := hh
/-- Behind k picks. -/
def JPo (n : Nat) (key r : Int) (k : Nat) (Y : Py) : Prop := (∃ l, Inv n key r l Y) ∧ Y.h.length ≤ 2 * k ∧ Y.S.order.length ≤ k
/-- Threads below t are through. -/
def Jo (n m : Nat) (key r : Int) (t : Nat) (Y : Py) : Prop :=
  (∃ l, Inv n key r l Y) ∧ Y.h.length + 2 * mu r t Y ≤ 2 * m + 40 * (t + 1) ∧ Y.S.order.length + mu r t Y ≤ m + 20 * (t + 1) ∧ t ≤ n ∧ ∀ j, j < t → (Y.S.th j).busy = false ∧ Y.left.getD j [] = []
theorem plan_once {n : Nat} {key r : Int} {pks : List Nat} {Y0 : Py} (hn : n ≤ 6) (h0 : Inv n key r [] Y0) (hh : Y0.h = []) (ho : Y0.S.order = []) (hlt : ∀ t ∈ pks, t < n) (hm : pks.length ≤ 100000) :
    Plan n pks Y0 (JPo n key r) (Jo n pks.length key r) (fun t Y => mu r t Y) where
  start := ⟨⟨[], h0⟩, by rw [hh]; simp, by rw [ho]; simp⟩
  pick := fun k Y hk hJ => by
    obtain ⟨⟨l, h⟩, h1, h2⟩ := hJ
    have hi : pks.getD k 0 < n := by
      rw [List.getD_eq_getElem?_getD, List.getElem?_eq_getElem hk]
      exact hlt _ (List.getElem_mem hk)
    generalize pks.getD k 0 = i at hi ⊢
    refine ⟨h.ok hi (by omega) (by omega), ?_⟩
    by_cases ha : Y.any i = true
    · obtain ⟨l', g1, g2, g3, g4, _⟩ := h.pick hi ha
      exact ⟨⟨l', g1⟩, by omega, by omega⟩
    · rw [show Y.pick i = Y by unfold Py.pick; rw [if_neg ha]]
      exact ⟨⟨l, h⟩, by omega, by omega⟩
  turn := fun Y hJ => by
    obtain ⟨⟨l, h⟩, h1, h2⟩ := hJ
    have := mu_le h 0
    exact ⟨⟨l, h⟩, by omega, by omega, Nat.zero_le _, fun j hj => by omega⟩
  alone := fun t ht Y hJ => by
    obtain ⟨⟨l, h⟩, h1, h2, h3, h4⟩ := hJ
    refine ⟨h.ok ht (by omega) (by omega), fun ha => ?_, fun ha => ?_⟩
    · obtain ⟨l', g1, g2, g3, g4, g5, _⟩ := h.pick ht ha
      exact ⟨⟨⟨l', g1⟩, by omega, by omega, h3, fun j hj => by obtain ⟨x1, x2⟩ := g5 j (by omega); rw [x1, x2]; exact h4 j hj⟩, g2⟩
    · have hb : (Y.S.th t).busy = false ∧ Y.left.getD t [] = [] := by
        have hn : ¬ ((Y.S.th t).busy = true ∨ Y.left.getD t [] ≠ []) := fun hx => by rw [(any_iff Y t).2 hx] at ha; cases ha
        refine ⟨?_, ?_⟩
        · cases hbz : (Y.S.th t).busy with
          | false => rfl
          | true => exact (hn (.inl hbz)).elim
        · exact Classical.byContradiction fun hx => hn (.inr hx)
      have hmu : mu r t Y = 0 := by unfold mu; rw [hb.1, hb.2]; simp
      have := mu_le h (t + 1)
      refine ⟨⟨l, h⟩, by omega, by omega, by omega, fun j hj => ?_⟩
      by_cases e : j = t
      · subst e; exact hb
      · exact h4 j (by omega)
  lt := hlt
  order := fun Y hJ => by
    obtain ⟨⟨l, h⟩, h1, h2, h3, h4⟩ := hJ
    omega
end Go.Proofs.YtghjnkfocjjlnaaGreat
end
section
namespace Go.Proofs.YtghjnkfocjjlnaaGreat
set_option maxRecDepth 100000
open Go.RowKit
set_option linter.unusedVariables false
set_option linter.unusedSimpArgs false
def ar0 (cells : Int) : Ar := ⟨cells, [⟨0, [2]⟩, ⟨3, [0, 0, 1]⟩], 1⟩
theorem newX_eq (n : Nat) {cells : Int} (h1 : 300 ≤ cells) (h2 : cells ≤ 60000) (p : PolR) :
    ((newX0 cells p).cellOf 0).2.2.1 = 0 ∧ (newX n cells p).a = ar0 cells ∧ (newX n cells p).root = 1 ∧ (newX n cells p).ths = List.replicate n th0 ∧ (newX n cells p).order = [] ∧ (newX n cells p).calls = 0 ∧ (newX n cells p).p = clampP p ∧ (newX n cells p).steps = 0 := by
  have hr : (newA cells).room = cells := newA_room (by omega) h2
  have e1 : cellO (some (newA cells)) 0 = (1, 0, some ⟨cells, [⟨0, [0]⟩], 0⟩) := by
    show ((addA (newA cells) ⟨0, [0]⟩).1, (addA (newA cells) ⟨0, [0]⟩).2.1, some (addA (newA cells) ⟨0, [0]⟩).2.2) = _
    rw [add_ok (by rw [hr]; show (0 : Int) < cells; omega), hr]
    rfl
  have e2 : makeO (some ⟨cells, [⟨0, [0]⟩], 0⟩) 3 [0, 0, 1] = (2, 0, some ⟨cells, [⟨0, [0]⟩, ⟨3, [0, 0, 1]⟩], 0⟩) := by
    rw [makeO_some _ _ _ (by simp), add_ok (by show (1 : Int) < cells; omega)]
    rfl
  have e3 : onceO (some ⟨cells, [⟨0, [0]⟩, ⟨3, [0, 0, 1]⟩], 0⟩) 1 2 = (true, some (ar0 cells)) := by
    unfold onceO
    dsimp only
    rw [if_pos (by simp [isCell, slotAt]), if_pos (by simp [holds, slotAt])]
    simp [putA, stepA, ar0, Go.RowKit.wrap64]
  have hc : (newX0 cells p).cellOf 0 = (1, 2, 0, ⟨ar0 cells, clampP p, 0, [], 0, [], 0, 0, 0⟩) := by
    have ha : (newX0 cells p).a = newA cells := rfl
    have e4 : ((newX0 cells p).ofA (cellO (some (newX0 cells p).a) 0).2.2).a = ⟨cells, [⟨0, [0]⟩], 0⟩ := by rw [ha, e1]; rfl
    unfold Ix.cellOf
    rw [e4, ha, e1]
    dsimp only
    rw [if_neg (by decide), e2]
    dsimp only
    rw [if_neg (by decide)]
    show (1, 2, 0, (({ newX0 cells p with a := ⟨cells, [⟨0, [0]⟩, ⟨3, [0, 0, 1]⟩], 0⟩ } : Ix)).ofA (onceO (some ⟨cells, [⟨0, [0]⟩, ⟨3, [0, 0, 1]⟩], 0⟩) 1 2).2) = _
    rw [e3]
    rfl
  unfold newX
  rw [hc]
  exact ⟨rfl, rfl, rfl, rfl, rfl, rfl, rfl, rfl⟩
theorem ar0_cell (cells : Int) : isCell (some (ar0 cells)) 1 = true := by simp [ar0, isCell, slotAt]
theorem ar0_rec (cells : Int) : RecB (ar0 cells) 1 2 [] 0 := ⟨by decide, by simp [ar0], 0, rfl, .nil⟩
theorem ar0_fits {cells : Int} (h : 300 ≤ cells) : fits (ar0 cells) := by unfold fits ar0; simp; omega
/-- The threads' operations. -/
def leftO (n : Nat) (key : Int) : List (List OpR) := (List.range n).map fun i => [addO1 key i, getO1 key]
theorem leftO_at {n i : Nat} (key : Int) (hi : i < n) : (leftO n key).getD i [] = [addO1 key i, getO1 key] := by
  unfold leftO
  rw [List.getD_eq_getElem?_getD, List.getElem?_map, List.getElem?_range hi]; rfl
theorem inv0 {n : Nat} {cells : Int} (h1 : 300 ≤ cells) (h2 : cells ≤ 60000) (p : PolR) (key : Int) : Inv n key 1 [] (py0 n cells p (leftO n key)) := by
  obtain ⟨_, ea, er, et, eo, _⟩ := newX_eq n h1 h2 p
  have hth : ∀ i, (newX n cells p).th i = th0 := fun i => by
    unfold Ix.th
    rw [et, List.getD_eq_getElem?_getD, List.getElem?_replicate]
    split <;> rfl
  refine ⟨by show (newX n cells p).ths.length = n; rw [et]; simp, by show (leftO n key).length = n; simp [leftO], by show (List.replicate n op0).length = n; simp, er, by show isCell (some (newX n cells p).a) 1 = true; rw [ea]; exact ar0_cell _, ⟨0, by show RecB (newX n cells p).a 1 (holds (newX n cells p).a 1) [] 0; rw [ea]; exact ar0_rec _, by unfold StatOK; omega⟩, by show fits (newX n cells p).a; rw [ea]; exact ar0_fits h1, by show (newX n cells p).a.room ≤ 60000; rw [ea]; exact h2, .inl rfl, fun i hi => ?_, .inr ⟨fun e he => (by cases he), .inl ⟨rfl, rfl⟩⟩⟩
  show TI _ _ _ _ _ _ ((newX n cells p).th i) ((leftO n key).getD i []) _
  rw [hth, leftO_at key hi]
  exact .idle2 rfl rfl rfl
/-- The end. -/
theorem end_once {n m : Nat} {key r : Int} (hn : 1 ≤ n) {Y : Py} (h : Jo n m key r n Y) : ∃ l s, Inv n key r l Y ∧ RecB Y.S.a r (holds Y.S.a r) l s ∧ StatOK s ∧ (ErrH Y.h ∨ ∃ f : Nat, f < n ∧ l = [(key, (f : Int))] ∧ wins Y.h = [(f : Int)] ∧ ∀ e ∈ Y.h, e.ret = true → e.op.kind = 4 → e.ans = had key f true) := by
  obtain ⟨⟨l, hi⟩, _, _, _, hd⟩ := h
  obtain ⟨s, hb, hs⟩ := hi.base
  refine ⟨l, s, hi, hb, hs, ?_⟩
  by_cases hE : ErrH Y.h
  · exact .inl hE
  · right
    have hl : l ≠ [] := by
      obtain ⟨h1, h2⟩ := hd 0 (by omega)
      cases hi.ths 0 (by omega) with
      | idle2 _ _ k2 => rw [h2] at k2; cases k2
      | idle1 _ _ k2 => rw [h2] at k2; cases k2
      | idle0 _ _ _ k3 => exact k3.resolve_left hE
      | s0 k1 => rw [h1] at k1; cases k1
      | s1 _ _ _ _ _ k1 => rw [h1] at k1; cases k1
      | s2 _ _ k1 => rw [h1] at k1; cases k1
      | s3 k1 => rw [h1] at k1; cases k1
    obtain ⟨g1, g2⟩ := hi.hist.resolve_left hE
    rcases g2 with ⟨g2, _⟩ | ⟨f, hf, hlf, g2⟩
    · exact absurd g2 hl
    · refine ⟨f, hf, hlf, ?_, fun e he hr hk => ?_⟩
      · rcases g2 with ⟨g2, _⟩ | ⟨_, g3⟩
        · exact g2
        · exfalso
          obtain ⟨h1, h2⟩ := hd f hf
          obtain ⟨c, q, k, b, ans, hx, _⟩ := g3
          cases hi.ths f hf with
          | idle2 _ k0 _ => rw [k0] at hx; cases hx
          | idle1 _ k0 _ => rw [k0] at hx; cases hx
          | idle0 _ k0 _ => rw [k0] at hx; cases hx
          | s0 k1 => rw [h1] at k1; cases k1
          | s1 _ _ _ _ _ k1 => rw [h1] at k1; cases k1
          | s2 _ _ k1 => rw [h1] at k1; cases k1
          | s3 k1 => rw [h1] at k1; cases k1
      · obtain ⟨f', hf', ha⟩ := g1 e he hr hk
        rw [hlf] at hf'
        injection hf' with hf'
        injection hf' with _ hf'
        rw [ha, hf']
end Go.Proofs.YtghjnkfocjjlnaaGreat
end
section
namespace Go.Proofs.YtghjnkfocjjlnaaGreat
set_option maxRecDepth 100000
open Go.RowKit
set_option linter.unusedVariables false
set_option linter.unusedSimpArgs false
/-- Where a thread is that updates one leaf. -/
inductive Ds
  | idle (lf : List OpR)
  | load (op : OpR) (late : Bool) (lf : List OpR)
  | swap (op : OpR) (late : Bool) (l0 l1 : List Pr) (s0 s1 : Int) (lf : List OpR)
def DsAt (a : Ar) (r : Int) (t : Th) (lf : List OpR) (o : OpR) : Ds → Prop
  | .idle l => t.busy = false ∧ lf = l
  | .load op late l => t.busy = true ∧ lf = l ∧ t.op = op ∧ o = op ∧ t.late = late ∧ t.next = some (.load r (.down (fnd r) op.key .upd))
  | .swap op late l0 l1 s0 s1 l => t.busy = true ∧ lf = l ∧ t.op = op ∧ o = op ∧ t.late = late ∧ ∃ old now, t.next = some (.swap r old now (.upd now (hadL op l0))) ∧ RecB a r old l0 s0 ∧ RecB a r now l1 s1
theorem DsAt.ek {a b : Ar} {r : Int} {t : Th} {lf : List OpR} {o : OpR} {d : Ds} (h : DsAt a r t lf o d) (k : Ek a b) : DsAt b r t lf o d := by
  cases d with
  | idle l => exact h
  | load op late l => exact h
  | swap op late l0 l1 s0 s1 l => obtain ⟨h1, h2, h3, h4, h5, old, now, h6, h7, h8⟩ := h; exact ⟨h1, h2, h3, h4, h5, old, now, h6, h7.ek k, h8.ek k⟩
structure OneS (r : Int) (p : PolR) (n hn on u : Nat) (l : List Pr) (s : Int) (D : Nat → Ds) (Y : Py) : Prop where
  nth : Y.S.ths.length = n
  nl : Y.left.length = n
  no : Y.ops.length = n
  root : Y.S.root = r
  pol : Y.S.p = p
  cell : isCell (some Y.S.a) r = true
  base : RecB Y.S.a r (holds Y.S.a r) l s
  fit : fits Y.S.a
  room : Y.S.a.room = 9000
  used : Y.S.a.slots.length ≤ u
  hist : Y.h.length = hn
  order : Y.S.order.length = on
  ths : ∀ i < n, DsAt Y.S.a r (Y.S.th i) (Y.left.getD i []) (Y.ops.getD i op0) (D i)
def setD (D : Nat → Ds) (i : Nat) (d : Ds) : Nat → Ds := fun j => if j = i then d else D j
theorem setD_same (D : Nat → Ds) (i : Nat) (d : Ds) : setD D i d i = d := by simp [setD]
theorem OneS.ths' {r : Int} {p : PolR} {n hn on u : Nat} {l : List Pr} {s : Int} {D : Nat → Ds} {Y : Py} (h : OneS r p n hn on u l s D Y) {i : Nat} {t' : Th} {a' : Ar} {o' : List Int} {Y' : Py} (hi : i < n) (hu : Upd Y.S i t' a' o' Y'.S) (ha : Ek Y.S.a a')
    (hlf : ∀ j, j ≠ i → Y'.left.getD j [] = Y.left.getD j []) (hop : ∀ j, j ≠ i → Y'.ops.getD j op0 = Y.ops.getD j op0) {d : Ds} (hT : DsAt a' r t' (Y'.left.getD i []) (Y'.ops.getD i op0) d) :
    ∀ j < n, DsAt Y'.S.a r (Y'.S.th j) (Y'.left.getD j []) (Y'.ops.getD j op0) (setD D i d j) := by
  intro j hj
  rw [hu.a]
  by_cases e : j = i
  · subst e
    rw [setD_same, hu.self (by rw [h.nth]; exact hi)]
    exact hT
  · rw [hu.other e, hlf j e, hop j e, show setD D i d j = D j by simp [setD, e]]
    exact (h.ths j hj).ek ha
theorem callAt_upd3 (S : Ix) (i : Nat) (op : OpR) (hi : i < S.ths.length) (hk : op.kind = 1 ∨ op.kind = 2 ∨ op.kind = 3) :
    Upd S i { S.th i with busy := true, late := false, op := op, call := S.calls, next := some (.load S.root (.down (fnd S.root) op.key .upd)) } S.a S.order (S.callAt i op) := by
  have hB : Upd S i { S.th i with busy := true, late := false, op := op, call := S.calls } S.a S.order ({ S.mod i (fun t => { t with busy := true, late := false, op := op, call := S.calls }) with calls := wrap64 (S.calls + 1) } : Ix) := ⟨rfl, rfl, rfl, rfl, rfl⟩
  unfold Ix.callAt
  generalize ({ S.mod i (fun t => { t with busy := true, late := false, op := op, call := S.calls }) with calls := wrap64 (S.calls + 1) } : Ix) = B at hB ⊢
  have hth := hB.self hi
  have e : B.begins i = B.next i (.load S.root (.down (fnd S.root) op.key .upd)) := by
    unfold Ix.begins
    rw [if_pos (by rw [hth]; exact hk)]
    unfold Ix.update Ix.find Ix.down
    rw [hth, hB.root]; rfl
  rw [e]
  exact hB.next hi _
/-- A thread's swap is in time, as things stand. -/
def FreshAt (r : Int) (i : Nat) (Y : Py) : Prop := ∀ old now a, (Y.S.th i).next = some (.swap r old now (.upd now a)) → holds Y.S.a r = old
/-- A call begins. -/
theorem OneS.begun {r : Int} {p : PolR} {n hn on u : Nat} {l : List Pr} {s : Int} {D : Nat → Ds} {Y : Py} (h : OneS r p n hn on u l s D Y) {i : Nat} (hi : i < n) {op : OpR} {lf : List OpR} (hd : D i = .idle (op :: lf)) (hk : op.kind = 1 ∨ op.kind = 2 ∨ op.kind = 3) :
    OneS r p n (hn + 1) on u l s (setD D i (.load op false lf)) (Y.begun i) ∧ ∀ j, j ≠ i → FreshAt r j Y → FreshAt r j (Y.begun i) := by
  have hin : i < Y.S.ths.length := by rw [h.nth]; exact hi
  have hT := h.ths i hi
  rw [hd] at hT
  obtain ⟨hb, hl⟩ := hT
  have hu := callAt_upd3 Y.S i op hin hk
  rw [begun_idle hb hl]
  generalize Y.S.callAt i op = S' at hu
  refine ⟨⟨by show S'.ths.length = n; rw [hu.ths]; simp [h.nth], by simp [h.nl], by simp [h.no], hu.root.trans h.root, hu.p.trans h.pol, by show isCell (some S'.a) r = true; rw [hu.a]; exact h.cell, by show RecB S'.a r (holds S'.a r) l s; rw [hu.a]; exact h.base, by show fits S'.a; rw [hu.a]; exact h.fit, by show S'.a.room = 9000; rw [hu.a]; exact h.room, by show S'.a.slots.length ≤ u; rw [hu.a]; exact h.used, by simp [h.hist], by show S'.order.length = on; rw [hu.order]; exact h.order,
    h.ths' (Y' := { S := S', left := Y.left.set i lf, ops := Y.ops.set i op, h := Y.h ++ [⟨(i : Int), false, op, ans0⟩] }) hi hu (Ek.refl _) (fun j hj => getD_other _ _ _ _ _ hj) (fun j hj => getD_other _ _ _ _ _ hj) ⟨rfl, getD_set _ _ _ _ (by rw [h.nl]; exact hi), rfl, getD_set _ _ _ _ (by rw [h.no]; exact hi), rfl, by rw [← h.root]⟩⟩, fun j hj hf old now a hx => ?_⟩
  have hx : (S'.th j).next = some (.swap r old now (.upd now a)) := hx
  rw [hu.other hj] at hx
  show holds S'.a r = old
  rw [hu.a]
  exact hf old now a hx
/-- A load. -/
theorem OneS.load {r : Int} {p : PolR} {n hn on u : Nat} {l : List Pr} {s : Int} {D : Nat → Ds} {Y : Py} (h : OneS r p n hn on u l s D Y) {i : Nat} (hi : i < n) {op : OpR} {late : Bool} {lf : List OpR} (hd : D i = .load op late lf) (hk : op.kind = 1 ∨ op.kind = 2 ∨ op.kind = 3) (hl : l.length < 2) (hu6 : u ≤ 1000) (hs : Sorted l) :
    OneS r p n hn on (u + 6) l s (setD D i (.swap op late l (doL op l) s (nextS p s (if late = true then 1 else 2)) lf)) ((Y.stepped i).told i) ∧ FreshAt r i ((Y.stepped i).told i) ∧ ∀ j, j ≠ i → FreshAt r j Y → FreshAt r j ((Y.stepped i).told i) := by
  have hin : i < Y.S.ths.length := by rw [h.nth]; exact hi
  have hT := h.ths i hi
  rw [hd] at hT
  obtain ⟨hb, hlf, hop, ho, hlt, hx⟩ := hT
  have hh : hgt l ≤ l.length := hgt_le l
  obtain ⟨a', x1, x2, x3, x4, x5⟩ := step_upd hin hx h.cell h.base hs (by omega) h.fit (by rw [hop]; exact hk)
  have hroom : a'.room = 9000 := x1.room.trans h.room
  have hused := h.used
  rcases x5 with ⟨now, hu, rec⟩ | ⟨_, y1, y2⟩
  · rw [hop] at hu rec
    rw [hlt, h.pol] at rec
    have hbz : ((Y.stepped i).S.th i).busy = true := by rw [stepped_busy hb]; show ((Y.S.step i).th i).busy = true; rw [hu.self hin]; exact hb
    rw [told_busy hbz, stepped_busy hb]
    refine ⟨⟨by show (Y.S.step i).ths.length = n; rw [hu.ths]; simp [h.nth], h.nl, h.no, hu.root.trans h.root, hu.p.trans h.pol, by show isCell (some (Y.S.step i).a) r = true; rw [hu.a]; exact x1.cell h.cell, by show RecB (Y.S.step i).a r (holds (Y.S.step i).a r) l s; rw [hu.a, x3]; exact h.base.ek x1, by show fits (Y.S.step i).a; rw [hu.a]; exact x2, by show (Y.S.step i).a.room = 9000; rw [hu.a]; exact hroom, by show (Y.S.step i).a.slots.length ≤ u + 6; rw [hu.a]; omega, h.hist, by show (Y.S.step i).order.length = on; rw [hu.order]; exact h.order,
      h.ths' (Y' := { Y with S := Y.S.step i }) hi hu x1 (fun _ _ => rfl) (fun _ _ => rfl) ⟨hb, hlf, hop, ho, hlt, _, now, rfl, h.base.ek x1, rec⟩⟩, fun old now' a hx => ?_, fun j hj hf old now' a hx => ?_⟩
    · have hx : ((Y.S.step i).th i).next = some (.swap r old now' (.upd now' a)) := hx
      rw [hu.self hin] at hx
      injection hx with hx
      injection hx with _ hx
      show holds (Y.S.step i).a r = old
      rw [hu.a, x3]; exact hx
    · have hx : ((Y.S.step i).th j).next = some (.swap r old now' (.upd now' a)) := hx
      rw [hu.other hj] at hx
      show holds (Y.S.step i).a r = old
      rw [hu.a, x3]; exact hf old now' a hx
  · exfalso; omega
/-- A swap that is in time. -/
theorem OneS.takes {r : Int} {p : PolR} {n hn on u : Nat} {l : List Pr} {s : Int} {D : Nat → Ds} {Y : Py} (h : OneS r p n hn on u l s D Y) {i : Nat} (hi : i < n) {op : OpR} {late : Bool} {l0 l1 : List Pr} {s0 s1 : Int} {lf : List OpR} (hd : D i = .swap op late l0 l1 s0 s1 lf)
    (hcur : FreshAt r i Y) (hl : l1.length < 2) (hdec : decideS p s1 ≠ 2) :
    OneS r p n (hn + 1) (on + 1) u l1 s1 (setD D i (.idle lf)) ((Y.stepped i).told i) := by
  have hin : i < Y.S.ths.length := by rw [h.nth]; exact hi
  have hT := h.ths i hi
  rw [hd] at hT
  obtain ⟨hb, hlf, hop, ho, hlt, old, now, hx, hro, hrn⟩ := hT
  have hc := hcur _ _ _ hx
  subst hc
  have hput : isCell (some (stepA Y.S.a)) r = true := h.cell
  have hek : Ek Y.S.a (putA (stepA Y.S.a) r now) := (Ek.step _).trans (Ek.put hput)
  rcases step_takes hin h.root hx h.cell hrn hl with ⟨q, _⟩ | ⟨q, hu⟩
  · rw [h.pol] at q; exact absurd q hdec
  · have hbz : ((Y.stepped i).S.th i).busy = false := by rw [stepped_busy hb]; show ((Y.S.step i).th i).busy = false; rw [hu.self hin]
    rw [told_idle hbz, stepped_busy hb]
    exact ⟨by show (Y.S.step i).ths.length = n; rw [hu.ths]; simp [h.nth], h.nl, h.no, hu.root.trans h.root, hu.p.trans h.pol, by show isCell (some (Y.S.step i).a) r = true; rw [hu.a]; exact hek.cell h.cell, by show RecB (Y.S.step i).a r (holds (Y.S.step i).a r) l1 s1; rw [hu.a, holds_put hput]; exact hrn.ek hek, by show fits (Y.S.step i).a; rw [hu.a]; exact fits_put (fits_step h.fit) _ _, by show (Y.S.step i).a.room = 9000; rw [hu.a, hek.room]; exact h.room, by show (Y.S.step i).a.slots.length ≤ u; rw [hu.a]; simpa [putA, stepA] using h.used, by show (Y.h ++ [_]).length = hn + 1; simp [h.hist], by show (Y.S.step i).order.length = on + 1; rw [hu.order]; simp [h.order],
      fun j hj => by
        have hq := h.ths' (Y' := { Y with S := Y.S.step i }) (d := .idle lf) hi hu hek (fun _ _ => rfl) (fun _ _ => rfl) ⟨rfl, hlf⟩ j hj
        exact hq⟩
/-- A swap that comes too late. -/
theorem OneS.late {r : Int} {p : PolR} {n hn on u : Nat} {l : List Pr} {s : Int} {D : Nat → Ds} {Y : Py} (h : OneS r p n hn on u l s D Y) {i : Nat} (hi : i < n) {op : OpR} {late : Bool} {l0 l1 : List Pr} {s0 s1 : Int} {lf : List OpR} (hd : D i = .swap op late l0 l1 s0 s1 lf) (hne : l ≠ l0) :
    OneS r p n hn on u l s (setD D i (.load op true lf)) ((Y.stepped i).told i) := by
  have hin : i < Y.S.ths.length := by rw [h.nth]; exact hi
  have hT := h.ths i hi
  rw [hd] at hT
  obtain ⟨hb, hlf, hop, ho, hlt, old, now, hx, hro, hrn⟩ := hT
  have hc : holds Y.S.a r ≠ old := fun e => by subst e; exact hne (h.base.uniq hro).1
  have hu := step_late hin hx h.cell hc
  rw [hop] at hu
  have hbz : ((Y.stepped i).S.th i).busy = true := by rw [stepped_busy hb]; show ((Y.S.step i).th i).busy = true; rw [hu.self hin]; exact hb
  rw [told_busy hbz, stepped_busy hb]
  have x1 := Ek.step Y.S.a
  exact ⟨by show (Y.S.step i).ths.length = n; rw [hu.ths]; simp [h.nth], h.nl, h.no, hu.root.trans h.root, hu.p.trans h.pol, by show isCell (some (Y.S.step i).a) r = true; rw [hu.a]; exact x1.cell h.cell, by show RecB (Y.S.step i).a r (holds (Y.S.step i).a r) l s; rw [hu.a]; exact h.base.ek x1, by show fits (Y.S.step i).a; rw [hu.a]; exact h.fit, by show (Y.S.step i).a.room = 9000; rw [hu.a]; exact h.room, by show (Y.S.step i).a.slots.length ≤ u; rw [hu.a]; exact h.used, h.hist, by show (Y.S.step i).order.length = on; rw [hu.order]; exact h.order,
    h.ths' (Y' := { Y with S := Y.S.step i }) hi hu x1 (fun _ _ => rfl) (fun _ _ => rfl) ⟨hb, hlf, hop, ho, rfl, by rw [h.root]⟩⟩
end Go.Proofs.YtghjnkfocjjlnaaGreat
end
