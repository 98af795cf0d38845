/- A player of the plain machine; what it does where threads add one key: the plain law. No program in sight. -/
import Derived.Test.YtghjnkfocjjlnaaGreatT08
import Derived.Test.YtghjnkfocjjlnaaGreatT26
set_option linter.unusedSimpArgs false
set_option linter.unusedVariables false
namespace Go.Proofs.YtghjnkfocjjlnaaGreat
set_option maxRecDepth 100000
open Go.RowKit (wrap64)
set_option linter.unusedVariables false
set_option linter.unusedSimpArgs false
namespace Py
set_option maxRecDepth 100000
def begun (Y : Py) (t : Nat) : Py :=
  if (Y.S.th t).busy = true then Y else
  match Y.left.getD t [] with
  | [] => Y
  | op :: l => { S := Y.S.callAt t op, left := Y.left.set t l, ops := Y.ops.set t op, h := Y.h ++ [⟨(t : Int), false, op, ans0⟩] }
noncomputable def stepped (Y : Py) (t : Nat) : Py := if (Y.S.th t).busy = true then { Y with S := Y.S.step t } else Y
def told (Y : Py) (t : Nat) : Py := if (Y.S.th t).busy = true then Y else { Y with h := Y.h ++ [⟨(t : Int), true, Y.ops.getD t op0, (Y.S.th t).ans⟩] }
/-- Is there anything to do? -/
def any (Y : Py) (t : Nat) : Bool := (Y.S.th t).busy || !(Y.left.getD t []).isEmpty
noncomputable def pick (Y : Py) (t : Nat) : Py := if Y.any t = true then ((Y.begun t).stepped t).told t else Y
end Py
def addO1 (key : Int) (i : Nat) : OpR := ⟨2, key, 0, i⟩
def getO1 (key : Int) : OpR := ⟨4, key, 0, 0⟩
/-- An error was told. -/
def ErrH (h : List Ev) : Prop := ∃ e ∈ h, e.ret = true ∧ e.ans.err ≠ 0
def isWin (e : Ev) : Bool := e.ret && (e.op.kind == 2) && !e.ans.ok
def wins (h : List Ev) : List Int := (h.filter isWin).map (·.th)
/-- A stat as it may be. -/
def StatOK (s : Int) : Prop := -1000000 ≤ s ∧ s ≤ 1000000
theorem nextS_ok (p : PolR) (s what : Int) : StatOK (nextS p s what) := by
  unfold StatOK nextS heldS
  split
  · omega
  · split
    · omega
    · split <;> omega
/-- Where a thread is. -/
inductive TI (E : Prop) (a : Ar) (r key : Int) (i : Nat) (l : List Pr) (t : Th) (lf : List OpR) (o : OpR) : Prop
  | idle2 : t.busy = false → t.next = none → lf = [addO1 key i, getO1 key] → TI E a r key i l t lf o
  | idle1 : t.busy = false → t.next = none → lf = [getO1 key] → (E ∨ l ≠ []) → TI E a r key i l t lf o
  | idle0 : t.busy = false → t.next = none → lf = [] → (E ∨ l ≠ []) → TI E a r key i l t lf o
  | s0 : t.busy = true → lf = [getO1 key] → t.op = addO1 key i → o = addO1 key i → t.next = some (.load r (.down (fnd r) key .upd)) → TI E a r key i l t lf o
  | s1 (old now s0 s1 : Int) (l0 : List Pr) : t.busy = true → lf = [getO1 key] → t.op = addO1 key i → o = addO1 key i → t.next = some (.swap r old now (.upd now (hadL (addO1 key i) l0))) →
      RecB a r now (doL (addO1 key i) l0) s0 → StatOK s0 → RecB a r old l0 s1 → (l0 = [] ∨ ∃ f, l0 = [(key, f)]) → TI E a r key i l t lf o
  | s2 (b : BaseR) (ans : AnsR) : t.busy = true → lf = [getO1 key] → t.op = addO1 key i → o = addO1 key i → t.next = some (.load r (.down (fnd r) key (.joins b (.ret ans)))) → ans.err = 0 → ans.pairs = [] → l ≠ [] → (ans.ok = false → l = [(key, (i : Int))]) → TI E a r key i l t lf o
  | s3 : t.busy = true → lf = [] → t.op = getO1 key → o = getO1 key → t.next = some (.load r (.down (fnd r) key (.looks key .gets))) → (E ∨ l ≠ []) → TI E a r key i l t lf o
/-- A thread that has won, and has not yet told so. -/
def Wn (t : Th) : Prop := ∃ c f k b ans, t.next = some (.load c (.down f k (.joins b (.ret ans)))) ∧ ans.ok = false
theorem TI.mono {E E' : Prop} {a a' : Ar} {r key : Int} {i : Nat} {l l' : List Pr} {t : Th} {lf : List OpR} {o : OpR} (h : TI E a r key i l t lf o) (hE : E → E') (ha : Ek a a') (hl : l ≠ [] → l' = l) : TI E' a' r key i l' t lf o := by
  have hl' : l ≠ [] → l' ≠ [] := fun h => by rw [hl h]; exact h
  cases h with
  | idle2 h1 h0 h2 => exact .idle2 h1 h0 h2
  | idle1 h1 h0 h2 h3 => exact .idle1 h1 h0 h2 (h3.imp hE hl')
  | idle0 h1 h0 h2 h3 => exact .idle0 h1 h0 h2 (h3.imp hE hl')
  | s0 h1 h2 h3 h4 h5 => exact .s0 h1 h2 h3 h4 h5
  | s1 old now s0 s1 l0 h1 h2 h3 h4 h5 h6 hok h7 h8 => exact .s1 old now s0 s1 l0 h1 h2 h3 h4 h5 (h6.ek ha) hok (h7.ek ha) h8
  | s2 b ans h1 h2 h3 h4 h5 h6 h7 h8 h9 => exact .s2 b ans h1 h2 h3 h4 h5 h6 h7 (hl' h8) (fun e => by rw [hl h8]; exact h9 e)
  | s3 h1 h2 h3 h4 h5 h6 => exact .s3 h1 h2 h3 h4 h5 (h6.imp hE hl')
/-- What the history says, as long as no error was told. -/
def HI (n : Nat) (key : Int) (l : List Pr) (Y : Py) : Prop :=
  (∀ e ∈ Y.h, e.ret = true → e.op.kind = 4 → ∃ f, l = [(key, f)] ∧ e.ans = had key f true) ∧
  ((l = [] ∧ wins Y.h = []) ∨ ∃ f : Nat, f < n ∧ l = [(key, (f : Int))] ∧ ((wins Y.h = [(f : Int)] ∧ ¬ Wn (Y.S.th f)) ∨ (wins Y.h = [] ∧ Wn (Y.S.th f))))
structure Inv (n : Nat) (key r : Int) (l : List Pr) (Y : Py) : Prop where
  nth : Y.S.ths.length = n
  nl : Y.left.length = n
  no : Y.ops.length = n
  root : Y.S.root = r
  cell : isCell (some Y.S.a) r = true
  base : ∃ s, RecB Y.S.a r (holds Y.S.a r) l s ∧ StatOK s
  fit : fits Y.S.a
  room : Y.S.a.room ≤ 60000
  lst : l = [] ∨ ∃ f : Nat, f < n ∧ l = [(key, (f : Int))]
  ths : ∀ i < n, TI (ErrH Y.h) Y.S.a r key i l (Y.S.th i) (Y.left.getD i []) (Y.ops.getD i op0)
  hist : ErrH Y.h ∨ HI n key l Y
/-- How far a thread is from its end. -/
def mu (r : Int) (i : Nat) (Y : Py) : Nat :=
  6 * (Y.left.getD i []).length + if (Y.S.th i).busy = true then (match (Y.S.th i).next with
    | some (.load _ (.down _ _ .upd)) => 3
    | some (.swap _ old _ _) => if holds Y.S.a r = old then 2 else 4
    | _ => 1) else 0
theorem ErrH.more {h : List Ev} (k : ErrH h) (m : List Ev) : ErrH (h ++ m) := by
  obtain ⟨e, h1, h2⟩ := k; exact ⟨e, List.mem_append_left _ h1, h2⟩
theorem wins_snoc (h : List Ev) (e : Ev) : wins (h ++ [e]) = wins h ++ (if isWin e = true then [e.th] else []) := by
  unfold wins
  rw [List.filter_append, List.map_append]
  congr 1
  by_cases h1 : isWin e = true
  · simp [h1]
  · simp [h1]
theorem lst_sorted {key : Int} {n : Nat} {l : List Pr} (h : l = [] ∨ ∃ f : Nat, f < n ∧ l = [(key, (f : Int))]) : Sorted l ∧ l.length < 2 := by
  rcases h with rfl | ⟨f, _, rfl⟩
  · exact ⟨List.Pairwise.nil, by simp⟩
  · exact ⟨by unfold Sorted; simp, by simp⟩
theorem doL_add {key : Int} (i : Nat) : doL (addO1 key i) [] = [(key, (i : Int))] ∧ hadL (addO1 key i) [] = ans0 := by
  refine ⟨?_, ?_⟩
  · unfold doL addO1 gotP; simp [ins]
  · unfold hadL addO1 gotP had; simp
theorem doL_had {key f : Int} (i : Nat) : doL (addO1 key i) [(key, f)] = [(key, f)] ∧ hadL (addO1 key i) [(key, f)] = had key f true := by
  refine ⟨?_, ?_⟩
  · unfold doL addO1 gotP; simp
  · unfold hadL addO1 gotP had; simp
theorem getL_had {key f : Int} : hadL (getO1 key) [(key, f)] = had key f true := by
  unfold hadL getO1 gotP had; simp
theorem getL_no {key : Int} : hadL (getO1 key) [] = ans0 := by
  unfold hadL getO1 gotP had; simp
/-- A treap has one row of pairs. -/
theorem Tr.uniq {a : Ar} {t : Int} {l m : List Pr} (h : Tr a t l) (k : Tr a t m) : l = m := by
  induction h generalizing m with
  | nil =>
    cases k with
    | nil => rfl
    | node _ k v x y l1 l2 hn => rw [isN_zero] at hn; cases hn
  | node t k v x y l1 l2 hn hg ht hx hy h1 h2 i1 i2 =>
    cases k with
    | nil => rw [isN_zero] at hn; cases hn
    | node _ k' v' x' y' m1 m2 hn' hg' ht' hx' hy' k1 k2 =>
      rw [hg] at hg'
      injection hg' with e1 e2 e3 e4 e5 e6
      subst e1; subst e2; subst e3; subst e4
      rw [i1 k1, i2 k2]
theorem RecB.uniq {a : Ar} {r id : Int} {l m : List Pr} {s u : Int} (h : RecB a r id l s) (k : RecB a r id m u) : l = m ∧ s = u := by
  obtain ⟨_, _, t, h1, h2⟩ := h
  obtain ⟨_, _, t', k1, k2⟩ := k
  rw [h1] at k1
  injection k1 with _ e
  injection e with e1 e
  injection e with e2 e
  subst e1; subst e2
  exact ⟨h2.uniq k2, rfl⟩
/-- One thread turns; of the others nothing. -/
theorem Inv.ths' {n : Nat} {key r : Int} {l l' : List Pr} {Y Y' : Py} {i : Nat} {t' : Th} {a' : Ar} {o' : List Int} (h : Inv n key r l Y) (hi : i < n) (hu : Upd Y.S i t' a' o' Y'.S) (hE : ErrH Y.h → ErrH Y'.h) (ha : Ek Y.S.a a') (hl : l ≠ [] → l' = l)
    (hlf : ∀ j, j ≠ i → Y'.left.getD j [] = Y.left.getD j []) (hop : ∀ j, j ≠ i → Y'.ops.getD j op0 = Y.ops.getD j op0) (hT : TI (ErrH Y'.h) a' r key i l' t' (Y'.left.getD i []) (Y'.ops.getD i op0)) :
    ∀ j < n, TI (ErrH Y'.h) Y'.S.a r key j l' (Y'.S.th j) (Y'.left.getD j []) (Y'.ops.getD j op0) := by
  intro j hj
  rw [hu.a]
  by_cases e : j = i
  · subst e
    rw [hu.self (by rw [h.nth]; exact hi)]
    exact hT
  · rw [hu.other e, hlf j e, hop j e]
    exact (h.ths j hj).mono hE ha hl
theorem callAt_upd (S : Ix) (i : Nat) (op : OpR) (hi : i < S.ths.length) (hk : op.kind = 2 ∨ op.kind = 4) :
    Upd S i { S.th i with busy := true, late := false, op := op, call := S.calls, next := some (.load S.root (.down (fnd S.root) op.key (if op.kind = 2 then .upd else .looks op.key .gets))) } S.a S.order (S.callAt i op) := by
  have hB : Upd S i { S.th i with busy := true, late := false, op := op, call := S.calls } S.a S.order ({ S.mod i (fun t => { t with busy := true, late := false, op := op, call := S.calls }) with calls := wrap64 (S.calls + 1) } : Ix) := ⟨rfl, rfl, rfl, rfl, rfl⟩
  unfold Ix.callAt
  generalize ({ S.mod i (fun t => { t with busy := true, late := false, op := op, call := S.calls }) with calls := wrap64 (S.calls + 1) } : Ix) = B at hB ⊢
  have hth := hB.self hi
  rcases hk with hk | hk
  · have e : B.begins i = B.next i (.load S.root (.down (fnd S.root) op.key .upd)) := by
      unfold Ix.begins
      rw [if_pos (.inr (.inl (by rw [hth]; exact hk)))]
      unfold Ix.update Ix.find Ix.down
      rw [hth, hB.root]; rfl
    rw [e, if_pos hk]
    exact hB.next hi _
  · have hk' : (B.th i).op.kind = 4 := by rw [hth]; exact hk
    have e : B.begins i = B.next i (.load S.root (.down (fnd S.root) op.key (.looks op.key .gets))) := by
      unfold Ix.begins
      rw [if_neg (by omega), if_pos hk']
      unfold Ix.looks Ix.find Ix.down
      rw [hth, hB.root]; rfl
    rw [e, if_neg (by omega)]
    exact hB.next hi _
theorem getD_set {α : Type} (l : List α) (i : Nat) (x d : α) (hi : i < l.length) : (l.set i x).getD i d = x := by
  rw [List.getD_eq_getElem?_getD, List.getElem?_set_self hi]; rfl
theorem getD_other {α : Type} (l : List α) (i j : Nat) (x d : α) (hj : j ≠ i) : (l.set i x).getD j d = l.getD j d := by
  rw [List.getD_eq_getElem?_getD, List.getD_eq_getElem?_getD, List.getElem?_set_ne (fun e => hj e.symm)]
/-- A call begins. -/
theorem Inv.begun {n : Nat} {key r : Int} {l : List Pr} {Y : Py} {i : Nat} (h : Inv n key r l Y) (hi : i < n) (hb : (Y.S.th i).busy = false) (hl : Y.left.getD i [] ≠ []) :
    Inv n key r l (Y.begun i) ∧ ((Y.begun i).S.th i).busy = true ∧ mu r i (Y.begun i) < mu r i Y ∧ (Y.begun i).h.length = Y.h.length + 1 ∧ (Y.begun i).S.order = Y.S.order ∧ (∀ j, j ≠ i → (Y.begun i).S.th j = Y.S.th j ∧ (Y.begun i).left.getD j [] = Y.left.getD j []) ∧ (∃ op lf, Y.left.getD i [] = op :: lf ∧ (op.kind = 2 ∨ op.kind = 4)) := by
  have hin : i < Y.S.ths.length := by rw [h.nth]; exact hi
  obtain ⟨op, lf, hlf, hop⟩ : ∃ op lf, Y.left.getD i [] = op :: lf ∧ ((op = addO1 key i ∧ lf = [getO1 key]) ∨ (op = getO1 key ∧ lf = [] ∧ (ErrH Y.h ∨ l ≠ []) ∧ (Y.S.th i).next = none)) := by
    cases h.ths i hi with
    | idle2 h1 h0 h2 => exact ⟨_, _, h2, .inl ⟨rfl, rfl⟩⟩
    | idle1 h1 h0 h2 h3 => exact ⟨_, _, h2, .inr ⟨rfl, rfl, h3, h0⟩⟩
    | idle0 h1 h0 h2 h3 => exact absurd h2 hl
    | s0 h1 => rw [hb] at h1; cases h1
    | s1 _ _ _ _ _ h1 => rw [hb] at h1; cases h1
    | s2 _ _ h1 => rw [hb] at h1; cases h1
    | s3 h1 => rw [hb] at h1; cases h1
  have hk : op.kind = 2 ∨ op.kind = 4 := by
    rcases hop with ⟨rfl, _⟩ | ⟨rfl, _⟩
    · exact .inl rfl
    · exact .inr rfl
  have e : Y.begun i = { S := Y.S.callAt i op, left := Y.left.set i lf, ops := Y.ops.set i op, h := Y.h ++ [⟨(i : Int), false, op, ans0⟩] } := by
    unfold Py.begun
    rw [if_neg (by rw [hb]; decide), hlf]
  have hu := callAt_upd Y.S i op hin hk
  rw [e]
  generalize Y.S.callAt i op = S' at hu
  have hE : ErrH Y.h → ErrH (Y.h ++ [⟨(i : Int), false, op, ans0⟩]) := fun k => k.more _
  have hT := h.ths' (Y' := { S := S', left := Y.left.set i lf, ops := Y.ops.set i op, h := Y.h ++ [⟨(i : Int), false, op, ans0⟩] }) (l' := l) hi hu hE (Ek.refl _) (fun _ => rfl) (fun j hj => getD_other _ _ _ _ _ hj) (fun j hj => getD_other _ _ _ _ _ hj) (by
    show TI _ _ _ _ _ _ _ ((Y.left.set i lf).getD i []) ((Y.ops.set i op).getD i op0)
    rw [getD_set _ _ _ _ (by rw [h.nl]; exact hi), getD_set _ _ _ _ (by rw [h.no]; exact hi)]
    rcases hop with ⟨rfl, rfl⟩ | ⟨rfl, rfl, h3, _⟩
    · exact .s0 rfl rfl rfl rfl (by rw [← h.root]; rfl)
    · exact .s3 rfl rfl rfl rfl (by rw [← h.root]; rfl) (h3.imp hE id))
  refine ⟨⟨by show S'.ths.length = n; rw [hu.ths]; simp [h.nth], by simp [h.nl], by simp [h.no], hu.root.trans h.root, by show isCell (some S'.a) r = true; rw [hu.a]; exact h.cell, by show ∃ s, RecB S'.a r (holds S'.a r) l s ∧ StatOK s; rw [hu.a]; exact h.base, by show fits S'.a; rw [hu.a]; exact h.fit, by show S'.a.room ≤ 60000; rw [hu.a]; exact h.room, h.lst, hT, ?_⟩, by show (S'.th i).busy = true; rw [hu.self hin], ?_, by simp, hu.order, fun j hj => ⟨hu.other hj, getD_other _ _ _ _ _ hj⟩, _, _, hlf, hk⟩
  · rcases h.hist with h1 | ⟨h1, h2⟩
    · exact .inl (hE h1)
    · refine .inr ⟨fun e he hr hk4 => ?_, ?_⟩
      · rcases List.mem_append.1 he with he | he
        · exact h1 e he hr hk4
        · rw [List.mem_singleton] at he; subst he; cases hr
      · show (l = [] ∧ wins (Y.h ++ [_]) = []) ∨ ∃ f : Nat, f < n ∧ l = [(key, (f : Int))] ∧ ((wins (Y.h ++ [_]) = [(f : Int)] ∧ ¬ Wn (S'.th f)) ∨ (wins (Y.h ++ [_]) = [] ∧ Wn (S'.th f)))
        rw [wins_snoc, if_neg (by simp [isWin]), List.append_nil]
        rcases h2 with h2 | ⟨f, hf, hlf', h2⟩
        · exact .inl h2
        · refine .inr ⟨f, hf, hlf', ?_⟩
          by_cases ef : f = i
          · subst ef
            rw [hu.self hin]
            have hn : ¬ Wn ({ Y.S.th f with busy := true, late := false, op := op, call := Y.S.calls, next := some (.load Y.S.root (.down (fnd Y.S.root) op.key (if op.kind = 2 then .upd else .looks op.key .gets))) } : Th) := by
              rintro ⟨c, g, k, b, ans, hx, _⟩
              have hx' : (some (Nx.load Y.S.root (.down (fnd Y.S.root) op.key (if op.kind = 2 then .upd else .looks op.key .gets)))) = some (.load c (.down g k (.joins b (.ret ans)))) := hx
              rcases hk with hk | hk <;> simp [hk] at hx'
            rcases h2 with ⟨h2, h3⟩ | ⟨h2, h3⟩
            · exact .inl ⟨h2, hn⟩
            · exfalso
              -- an idle thread waits for nothing
              obtain ⟨c, g, k, b, ans, hx, ho⟩ := h3
              cases h.ths f hi with
              | idle2 k1 k0 k2 => rw [k0] at hx; cases hx
              | idle1 k1 k0 k2 k3 => rw [k0] at hx; cases hx
              | idle0 k1 k0 k2 k3 => rw [k0] at hx; cases hx
              | s0 h1 => rw [hb] at h1; cases h1
              | s1 _ _ _ _ _ h1 => rw [hb] at h1; cases h1
              | s2 _ _ h1 => rw [hb] at h1; cases h1
              | s3 h1 => rw [hb] at h1; cases h1
          · rw [hu.other ef]; exact h2
  · unfold mu
    show 6 * ((Y.left.set i lf).getD i []).length + (if (S'.th i).busy = true then _ else 0) < _
    rw [getD_set _ _ _ _ (by rw [h.nl]; exact hi), hu.self hin, hlf, hb]
    rcases hop with ⟨rfl, rfl⟩ | ⟨rfl, rfl, _⟩ <;> simp [addO1, getO1]
theorem HI.turn {n : Nat} {key : Int} {l : List Pr} {Y Y' : Py} {i : Nat} {t' : Th} {a' : Ar} {o' : List Int} (h : HI n key l Y) (hin : i < Y.S.ths.length) (hu : Upd Y.S i t' a' o' Y'.S) (hw : Wn t' ↔ Wn (Y.S.th i))
    (hg : ∀ e ∈ Y'.h, e.ret = true → e.op.kind = 4 → e ∈ Y.h ∨ ∃ f, l = [(key, f)] ∧ e.ans = had key f true) (hwins : wins Y'.h = wins Y.h) : HI n key l Y' := by
  obtain ⟨h1, h2⟩ := h
  refine ⟨fun e he hr hk => ?_, ?_⟩
  · rcases hg e he hr hk with h3 | h3
    · exact h1 e h3 hr hk
    · exact h3
  · rw [hwins]
    rcases h2 with h2 | ⟨f, hf, hl, h2⟩
    · exact .inl h2
    · refine .inr ⟨f, hf, hl, ?_⟩
      by_cases ef : f = i
      · subst ef
        rw [hu.self hin, hw]; exact h2
      · rw [hu.other ef]; exact h2
theorem Wn.none {t : Th} (h : t.next = none) : ¬ Wn t := by
  rintro ⟨c, f, k, b, ans, hx, _⟩; rw [h] at hx; cases hx
theorem Wn.upd {t : Th} {c k : Int} {f : FoundR} (h : t.next = some (.load c (.down f k .upd))) : ¬ Wn t := by
  rintro ⟨c, f, k, b, ans, hx, _⟩; rw [h] at hx; cases hx
theorem Wn.get {t : Th} {c k k2 : Int} {f : FoundR} {k0 : K0} (h : t.next = some (.load c (.down f k (.looks k2 k0)))) : ¬ Wn t := by
  rintro ⟨c, f, k, b, ans, hx, _⟩; rw [h] at hx; cases hx
theorem Wn.swap {t : Th} {c o n : Int} {k : KW} (h : t.next = some (.swap c o n k)) : ¬ Wn t := by
  rintro ⟨c, f, k, b, ans, hx, _⟩; rw [h] at hx; cases hx
theorem Wn.joins {t : Th} {c k : Int} {f : FoundR} {b : BaseR} {ans : AnsR} (h : t.next = some (.load c (.down f k (.joins b (.ret ans))))) : Wn t ↔ ans.ok = false := by
  refine ⟨?_, fun e => ⟨_, _, _, _, _, h, e⟩⟩
  rintro ⟨c', f', k', b', ans', hx, ho⟩
  rw [h] at hx
  injection hx with hx; injection hx with _ hx; injection hx with _ _ hx; injection hx with _ hx; injection hx with hx
  rw [hx]; exact ho
theorem told_busy {Y : Py} {t : Nat} (h : (Y.S.th t).busy = true) : Y.told t = Y := by unfold Py.told; rw [if_pos h]
theorem told_idle {Y : Py} {t : Nat} (h : (Y.S.th t).busy = false) : Y.told t = { Y with h := Y.h ++ [⟨(t : Int), true, Y.ops.getD t op0, (Y.S.th t).ans⟩] } := by unfold Py.told; rw [if_neg (by rw [h]; decide)]
/-- What is behind a step. -/
def After (n : Nat) (key r : Int) (l : List Pr) (i : Nat) (Y Z : Py) : Prop :=
  ∃ l', (l ≠ [] → l' = l) ∧ Inv n key r l' (Z.told i) ∧ mu r i (Z.told i) < mu r i Y ∧ (Z.told i).h.length ≤ Y.h.length + 1 ∧ (Z.told i).S.order.length ≤ Y.S.order.length + 1 ∧ ((Z.S.th i).busy = false → (Z.S.th i).over = true ∧ (Z.S.th i).ans.pairs = []) ∧ ∀ j, j ≠ i → (Z.told i).S.th j = Y.S.th j ∧ (Z.told i).left = Y.left
/-- A step behind which the thread is still at work. -/
theorem Inv.still {n : Nat} {key r : Int} {l l' : List Pr} {Y : Py} {i : Nat} {t' : Th} {a' : Ar} {o' : List Int} {S' : Ix} {s' : Int} (h : Inv n key r l Y) (hi : i < n) (hu : Upd Y.S i t' a' o' S') (hb : t'.busy = true) (ha : Ek Y.S.a a') (hf : fits a') (hl : l ≠ [] → l' = l) (hl2 : l' = [] ∨ ∃ f : Nat, f < n ∧ l' = [(key, (f : Int))])
    (hbase : RecB a' r (holds a' r) l' s') (hos : StatOK s') (ho : o'.length ≤ Y.S.order.length + 1) (hT : TI (ErrH Y.h) a' r key i l' t' (Y.left.getD i []) (Y.ops.getD i op0)) (hH : HI n key l Y → HI n key l' { Y with S := S' }) (hm : mu r i { Y with S := S' } < mu r i Y) : After n key r l i Y { Y with S := S' } := by
  have hin : i < Y.S.ths.length := by rw [h.nth]; exact hi
  have hbz : (({ Y with S := S' } : Py).S.th i).busy = true := by show (S'.th i).busy = true; rw [hu.self hin]; exact hb
  refine ⟨l', hl, ?_, ?_, ?_, ?_, fun e => (by rw [hbz] at e; cases e), fun j hj => by rw [told_busy hbz]; exact ⟨hu.other hj, rfl⟩⟩
  · rw [told_busy hbz]
    exact ⟨by show S'.ths.length = n; rw [hu.ths]; simp [h.nth], h.nl, h.no, hu.root.trans h.root, by show isCell (some S'.a) r = true; rw [hu.a]; exact ha.cell h.cell, ⟨s', by show RecB S'.a r (holds S'.a r) l' s'; rw [hu.a]; exact hbase, hos⟩, by show fits S'.a; rw [hu.a]; exact hf, by show S'.a.room ≤ 60000; rw [hu.a, ha.room]; exact h.room, hl2,
      h.ths' (Y' := { Y with S := S' }) hi hu id ha hl (fun _ _ => rfl) (fun _ _ => rfl) hT, h.hist.imp id hH⟩
  · rw [told_busy hbz]; exact hm
  · rw [told_busy hbz]; show Y.h.length ≤ _; omega
  · rw [told_busy hbz]; show S'.order.length ≤ _; rw [hu.order]; exact ho
/-- A step that ends the call. -/
theorem Inv.ends {n : Nat} {key r : Int} {l l' : List Pr} {Y : Py} {i : Nat} {t' : Th} {a' : Ar} {o' : List Int} {S' : Ix} {s' : Int} (h : Inv n key r l Y) (hi : i < n) (hu : Upd Y.S i t' a' o' S') (hb : t'.busy = false) (hov : t'.over = true) (hps : t'.ans.pairs = []) (ha : Ek Y.S.a a') (hf : fits a') (hl : l ≠ [] → l' = l) (hl2 : l' = [] ∨ ∃ f : Nat, f < n ∧ l' = [(key, (f : Int))])
    (hbase : RecB a' r (holds a' r) l' s') (hos : StatOK s') (ho : o'.length ≤ Y.S.order.length + 1) (hT : TI (ErrH (Y.h ++ [⟨(i : Int), true, Y.ops.getD i op0, t'.ans⟩])) a' r key i l' t' (Y.left.getD i []) (Y.ops.getD i op0)) (hH : ErrH (Y.h ++ [⟨(i : Int), true, Y.ops.getD i op0, t'.ans⟩]) ∨ (HI n key l Y → HI n key l' { Y with S := S', h := Y.h ++ [⟨(i : Int), true, Y.ops.getD i op0, t'.ans⟩] })) (hm : 0 < (if (Y.S.th i).busy = true then (match (Y.S.th i).next with
    | some (.load _ (.down _ _ .upd)) => 3
    | some (.swap _ old _ _) => if holds Y.S.a r = old then 2 else 4
    | _ => 1) else 0)) : After n key r l i Y { Y with S := S' } := by
  have hin : i < Y.S.ths.length := by rw [h.nth]; exact hi
  have hth : S'.th i = t' := hu.self hin
  have hbz : (({ Y with S := S' } : Py).S.th i).busy = false := by show (S'.th i).busy = false; rw [hth]; exact hb
  have e : ({ Y with S := S' } : Py).told i = { Y with S := S', h := Y.h ++ [⟨(i : Int), true, Y.ops.getD i op0, t'.ans⟩] } := by
    rw [told_idle hbz]
    show ({ Y with S := S', h := Y.h ++ [⟨(i : Int), true, Y.ops.getD i op0, (S'.th i).ans⟩] } : Py) = _
    rw [hth]
  have hE : ErrH Y.h → ErrH (Y.h ++ [⟨(i : Int), true, Y.ops.getD i op0, t'.ans⟩]) := fun k => k.more _
  refine ⟨l', hl, ?_, ?_, ?_, ?_, fun _ => by show (S'.th i).over = true ∧ (S'.th i).ans.pairs = []; rw [hth]; exact ⟨hov, hps⟩, fun j hj => by rw [e]; exact ⟨hu.other hj, rfl⟩⟩
  · rw [e]
    refine ⟨by show S'.ths.length = n; rw [hu.ths]; simp [h.nth], h.nl, h.no, hu.root.trans h.root, by show isCell (some S'.a) r = true; rw [hu.a]; exact ha.cell h.cell, ⟨s', by show RecB S'.a r (holds S'.a r) l' s'; rw [hu.a]; exact hbase, hos⟩, by show fits S'.a; rw [hu.a]; exact hf, by show S'.a.room ≤ 60000; rw [hu.a, ha.room]; exact h.room, hl2,
      h.ths' (Y' := { Y with S := S', h := Y.h ++ [⟨(i : Int), true, Y.ops.getD i op0, t'.ans⟩] }) hi hu hE ha hl (fun _ _ => rfl) (fun _ _ => rfl) hT, ?_⟩
    rcases hH with hH | hH
    · exact .inl hH
    · exact h.hist.imp hE hH
  · rw [e]
    unfold mu
    show 6 * (Y.left.getD i []).length + (if (S'.th i).busy = true then _ else 0) < _
    rw [hth, if_neg (by rw [hb]; decide)]
    omega
  · rw [e]; simp
  · rw [e]; show S'.order.length ≤ _; rw [hu.order]; exact ho
/-- A step. -/
theorem Inv.step {n : Nat} {key r : Int} {l : List Pr} {Y : Py} {i : Nat} (h : Inv n key r l Y) (hi : i < n) (hb : (Y.S.th i).busy = true) : After n key r l i Y (Y.stepped i) := by
  have hin : i < Y.S.ths.length := by rw [h.nth]; exact hi
  have e : Y.stepped i = { Y with S := Y.S.step i } := by unfold Py.stepped; rw [if_pos hb]
  rw [e]
  obtain ⟨s, hbase, hsok⟩ := h.base
  obtain ⟨hs, hl2⟩ := lst_sorted h.lst
  have hput : isCell (some (stepA Y.S.a)) r = true := h.cell
  cases h.ths i hi with
  | idle2 k1 => rw [hb] at k1; cases k1
  | idle1 k1 => rw [hb] at k1; cases k1
  | idle0 k1 => rw [hb] at k1; cases k1
  | s0 k1 k2 k3 k4 k5 =>
    obtain ⟨a', x1, x2, x3, x4, x5⟩ := step_upd hin k5 h.cell hbase hs (by omega) h.fit (by rw [k3]; exact .inr (.inl rfl))
    have hbase' : RecB a' r (holds a' r) l s := by rw [x3]; exact hbase.ek x1
    rcases x5 with ⟨now, u, rec⟩ | ⟨u, _⟩
    · rw [k3] at u rec
      refine h.still hi u (by exact hb) x1 x2 (fun _ => rfl) h.lst hbase' hsok (by omega) ?_ (fun hH => ?_) ?_
      · exact .s1 _ _ _ _ l hb k2 k3 k4 rfl rec (nextS_ok _ _ _) (hbase.ek x1) (h.lst.imp id (fun ⟨f, _, hf⟩ => ⟨_, hf⟩))
      · exact hH.turn hin u ⟨fun hw => absurd hw (Wn.swap rfl), fun hw => absurd hw (Wn.upd k5)⟩ (fun e he _ _ => .inl he) rfl
      · have hb' : ((Y.S.step i).th i).busy = true := by rw [u.self hin]; exact hb
        have hn' : ((Y.S.step i).th i).next = some (.swap r (holds Y.S.a r) now (.upd now (hadL (addO1 key i) l))) := by rw [u.self hin]
        unfold mu
        show 6 * (Y.left.getD i []).length + (if ((Y.S.step i).th i).busy = true then (match ((Y.S.step i).th i).next with
          | some (.load _ (.down _ _ .upd)) => 3
          | some (.swap _ old _ _) => if holds (Y.S.step i).a r = old then 2 else 4
          | _ => 1) else 0) < _
        rw [if_pos hb', hn', if_pos hb, k5, u.a]
        simp only []
        rw [if_pos x3]; omega
    · refine h.ends hi u rfl rfl rfl x1 x2 (fun _ => rfl) h.lst hbase' hsok (by omega) ?_ (.inl ?_) (by rw [if_pos hb, k5]; simp)
      · exact .idle1 rfl rfl k2 (.inl ⟨_, List.mem_append_right _ (List.mem_singleton.2 rfl), rfl, by simp [full_]⟩)
      · exact ⟨_, List.mem_append_right _ (List.mem_singleton.2 rfl), rfl, by simp [full_]⟩
  | s1 old now s0 s1 l0 k1 k2 k3 k4 k5 k6 kok k7 k8 =>
    by_cases ho : holds Y.S.a r = old
    · subst ho
      obtain ⟨rfl, _⟩ := hbase.uniq k7
      have hd : doL (addO1 key i) l ≠ [] ∧ (l ≠ [] → doL (addO1 key i) l = l) ∧ (doL (addO1 key i) l).length < 2 ∧ (doL (addO1 key i) l = [] ∨ ∃ f : Nat, f < n ∧ doL (addO1 key i) l = [(key, (f : Int))]) ∧ (hadL (addO1 key i) l).err = 0 ∧ (hadL (addO1 key i) l).pairs = [] ∧ ((hadL (addO1 key i) l).ok = false → l = [] ∧ doL (addO1 key i) l = [(key, (i : Int))]) ∧ (l = [] → (hadL (addO1 key i) l).ok = false) := by
        rcases h.lst with rfl | ⟨f, hf, rfl⟩
        · rw [(doL_add (key := key) i).1, (doL_add (key := key) i).2]; exact ⟨by simp, by simp, by simp, .inr ⟨i, hi, rfl⟩, rfl, rfl, fun _ => ⟨rfl, rfl⟩, fun _ => rfl⟩
        · rw [(doL_had i).1, (doL_had i).2]; exact ⟨by simp, fun _ => rfl, by simp, .inr ⟨f, hf, rfl⟩, rfl, rfl, (by simp [had]), (by simp)⟩
      obtain ⟨d1, d2, d3, d4, d5, d6, d7, d8⟩ := hd
      have hcell' : isCell (some (putA (stepA Y.S.a) r now)) r = true := (Ek.put hput).cell hput
      have hek : Ek Y.S.a (putA (stepA Y.S.a) r now) := (Ek.step _).trans (Ek.put hput)
      have hrec : RecB (putA (stepA Y.S.a) r now) r (holds (putA (stepA Y.S.a) r now) r) (doL (addO1 key i) l) s0 := by rw [holds_put hput]; exact k6.ek hek
      have hfit : fits (putA (stepA Y.S.a) r now) := fits_put (fits_step h.fit) _ _
      rcases step_takes hin h.root k5 h.cell k6 d3 with ⟨q, b, u⟩ | ⟨q, u⟩
      · rw [k3] at u
        refine h.still hi u (by exact hb) hek hfit d2 d4 hrec kok (by simp) ?_ (fun hH => ?_) ?_
        · exact .s2 b _ hb k2 k3 k4 rfl d5 d6 d1 (fun e => (d7 e).2)
        · obtain ⟨h1, h2⟩ := hH
          by_cases hl0 : l = []
          · refine ⟨fun e he hr hk => ?_, .inr ⟨i, hi, (d7 (d8 hl0)).2, .inr ⟨?_, ?_⟩⟩⟩
            · obtain ⟨f, hf, _⟩ := h1 e he hr hk; rw [hl0] at hf; cases hf
            · rcases h2 with h2 | ⟨f, _, h3, _⟩
              · exact h2.2
              · rw [hl0] at h3; cases h3
            · show Wn ((Y.S.step i).th i)
              rw [u.self hin]
              exact (Wn.joins rfl).2 (d8 hl0)
          · rw [d2 hl0]
            have hok : ¬ (hadL (addO1 key i) l).ok = false := fun e => hl0 (d7 e).1
            exact HI.turn (Y := Y) ⟨h1, h2⟩ hin u ⟨fun hw => absurd ((Wn.joins rfl).1 hw) hok, fun hw => absurd hw (Wn.swap k5)⟩ (fun e he _ _ => .inl he) rfl
        · have hb' : ((Y.S.step i).th i).busy = true := by rw [u.self hin]; exact hb
          have hn' : ((Y.S.step i).th i).next = some (.load r (.down (fnd r) key (.joins b (.ret (hadL (addO1 key i) l))))) := by rw [u.self hin]; rfl
          unfold mu
          show 6 * (Y.left.getD i []).length + (if ((Y.S.step i).th i).busy = true then (match ((Y.S.step i).th i).next with
            | some (.load _ (.down _ _ .upd)) => 3
            | some (.swap _ old _ _) => if holds (Y.S.step i).a r = old then 2 else 4
            | _ => 1) else 0) < _
          rw [if_pos hb', hn', if_pos hb, k5]
          simp
      · rw [show ({ Y.S.th i with next := none, busy := false, over := true, ans := hadL (addO1 key i) l } : Th) = { Y.S.th i with next := none, busy := false, over := true, ans := hadL (addO1 key i) l } from rfl] at u
        refine h.ends hi u rfl rfl d6 hek hfit d2 d4 hrec kok (by simp) ?_ (.inr fun hH => ?_) (by rw [if_pos hb, k5]; simp)
        · exact .idle1 rfl rfl k2 (.inr d1)
        · obtain ⟨h1, h2⟩ := hH
          by_cases hl0 : l = []
          · refine ⟨fun e he hr hk => ?_, .inr ⟨i, hi, (d7 (d8 hl0)).2, .inl ⟨?_, ?_⟩⟩⟩
            · rcases List.mem_append.1 he with he | he
              · obtain ⟨f, hf, _⟩ := h1 e he hr hk; rw [hl0] at hf; cases hf
              · rw [List.mem_singleton] at he; subst he
                rw [k4] at hk; exact absurd hk (by simp [addO1])
            · show wins (Y.h ++ [_]) = _
              rw [wins_snoc, if_pos (by rw [k4]; show (true && ((2 : Int) == 2) && !(hadL (addO1 key i) l).ok) = true; rw [d8 hl0]; rfl)]
              rcases h2 with h2 | ⟨f, _, h3, _⟩
              · rw [h2.2]; rfl
              · rw [hl0] at h3; cases h3
            · show ¬ Wn ((Y.S.step i).th i)
              rw [u.self hin]; exact Wn.none rfl
          · rw [d2 hl0]
            have hok : ¬ (hadL (addO1 key i) l).ok = false := fun e => hl0 (d7 e).1
            refine HI.turn (Y := Y) ⟨h1, h2⟩ hin u ⟨fun hw => absurd hw (Wn.none rfl), fun hw => absurd hw (Wn.swap k5)⟩ (fun e he hr hk => ?_) ?_
            · rcases List.mem_append.1 he with he | he
              · exact .inl he
              · rw [List.mem_singleton] at he; subst he
                rw [k4] at hk; exact absurd hk (by simp [addO1])
            · show wins (Y.h ++ [_]) = _
              rw [wins_snoc, if_neg (by simp [isWin, hok]), List.append_nil]
    · have u := step_late hin k5 h.cell ho
      rw [h.root] at u
      refine h.still hi u (by exact hb) (Ek.step _) h.fit (fun _ => rfl) h.lst (s' := s) (by exact hbase.ek (Ek.step _)) hsok (by omega) ?_ (fun hH => ?_) ?_
      · exact .s0 hb k2 k3 k4 (by rw [k3]; rfl)
      · exact hH.turn hin u ⟨fun hw => absurd hw (Wn.upd rfl), fun hw => absurd hw (Wn.swap k5)⟩ (fun e he _ _ => .inl he) rfl
      · have hb' : ((Y.S.step i).th i).busy = true := by rw [u.self hin]; exact hb
        have hn' : ((Y.S.step i).th i).next = some (.load r (.down (fnd r) (Y.S.th i).op.key .upd)) := by rw [u.self hin]
        unfold mu
        show 6 * (Y.left.getD i []).length + (if ((Y.S.step i).th i).busy = true then (match ((Y.S.step i).th i).next with
          | some (.load _ (.down _ _ .upd)) => 3
          | some (.swap _ old _ _) => if holds (Y.S.step i).a r = old then 2 else 4
          | _ => 1) else 0) < _
        rw [if_pos hb', hn', if_pos hb, k5]
        simp only []
        rw [if_neg ho]; omega
  | s2 b ans k1 k2 k3 k4 k5 k6 k7 k8 k9 =>
    have u := step_joins hin k5 h.cell
    refine h.ends hi u rfl rfl k7 (Ek.step _) h.fit (fun _ => rfl) h.lst (s' := s) (by exact hbase.ek (Ek.step _)) hsok (by omega) ?_ (.inr fun hH => ?_) (by rw [if_pos hb, k5]; simp)
    · exact .idle1 rfl rfl k2 (.inr k8)
    · have hgets : ∀ e ∈ Y.h ++ [(⟨(i : Int), true, Y.ops.getD i op0, ans⟩ : Ev)], e.ret = true → e.op.kind = 4 → e ∈ Y.h ∨ ∃ f, l = [(key, f)] ∧ e.ans = had key f true := fun e he hr hk => by
        rcases List.mem_append.1 he with he | he
        · exact .inl he
        · rw [List.mem_singleton] at he; subst he
          rw [k4] at hk; exact absurd hk (by simp [addO1])
      by_cases hok : ans.ok = false
      · obtain ⟨h1, h2⟩ := hH
        have hl0 := k9 hok
        refine ⟨fun e he hr hk => ?_, .inr ⟨i, hi, hl0, .inl ⟨?_, ?_⟩⟩⟩
        · rcases hgets e he hr hk with h3 | h3
          · exact h1 e h3 hr hk
          · exact h3
        · show wins (Y.h ++ [_]) = _
          rw [wins_snoc, if_pos (by rw [k4]; simp [isWin, addO1, hok])]
          rcases h2 with ⟨h3, _⟩ | ⟨f, hf, h3, h4⟩
          · exact absurd h3 k8
          · have ef : f = i := by rw [hl0] at h3; injection h3 with h3; injection h3 with _ h3; omega
            subst ef
            rcases h4 with ⟨_, h5⟩ | ⟨h4, _⟩
            · exact absurd ((Wn.joins k5).2 hok) h5
            · rw [h4]; rfl
        · show ¬ Wn ((Y.S.step i).th i)
          rw [u.self hin]; exact Wn.none rfl
      · refine hH.turn hin u ⟨fun hw => absurd hw (Wn.none rfl), fun hw => absurd ((Wn.joins k5).1 hw) hok⟩ hgets ?_
        show wins (Y.h ++ [_]) = _
        rw [wins_snoc, if_neg (by simp [isWin, hok]), List.append_nil]
  | s3 k1 k2 k3 k4 k5 k6 =>
    have u := step_get hin k5 h.cell hbase hs
    rw [k3] at u
    have hps : (hadL (getO1 key) l).pairs = [] := by
      rcases h.lst with rfl | ⟨f, _, rfl⟩
      · rw [getL_no]; rfl
      · rw [getL_had]; rfl
    refine h.ends hi u rfl rfl hps (Ek.step _) h.fit (fun _ => rfl) h.lst (s' := s) (by exact hbase.ek (Ek.step _)) hsok (by simp) ?_ ?_ (by rw [if_pos hb, k5]; simp)
    · exact .idle0 rfl rfl k2 (k6.imp (fun k => k.more _) id)
    · rcases k6 with k6 | k6
      · exact .inl (k6.more _)
      · refine .inr fun hH => hH.turn hin u ⟨fun hw => absurd hw (Wn.none rfl), fun hw => absurd hw (Wn.get k5)⟩ (fun e he hr hk => ?_) ?_
        · rcases List.mem_append.1 he with he | he
          · exact .inl he
          · rw [List.mem_singleton] at he; subst he
            rcases h.lst with rfl | ⟨f, _, rfl⟩
            · exact absurd rfl k6
            · exact .inr ⟨_, rfl, getL_had⟩
        · show wins (Y.h ++ [_]) = _
          rw [wins_snoc, if_neg (by rw [k4]; simp [isWin, getO1]), List.append_nil]
end Go.Proofs.YtghjnkfocjjlnaaGreat
