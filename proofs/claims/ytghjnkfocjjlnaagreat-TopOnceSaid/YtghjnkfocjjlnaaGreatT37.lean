/- The plan of the script that awake runs. -/
/- The script that every program must know to run: awake. -/
import Derived.Test.YtghjnkfocjjlnaaGreatT36
set_option linter.unusedSimpArgs false
set_option linter.unusedVariables false
section
namespace Go.Proofs.YtghjnkfocjjlnaaGreat
set_option maxRecDepth 100000
open Go.RowKit Go.Proofs.YtghjnkfocjjlnaaGreatW.PrintWords Go.Proofs.YtghjnkfocjjlnaaGreatW.PrintLast
set_option linter.unusedVariables false
set_option linter.unusedSimpArgs false
theorem hadL_pairs (op : OpR) (l : List Pr) : (hadL op l).pairs = [] := by
  unfold hadL had
  split <;> rfl
/-- A thread at work that updates pairs of which there are few. -/
def DsOK : Ds → Prop
  | .idle _ => False
  | .load op _ _ => op.kind = 1 ∨ op.kind = 2 ∨ op.kind = 3
  | .swap op _ _ l1 _ _ _ => l1.length < 2
theorem OneS.busy {r : Int} {p : PolR} {n hn on u : Nat} {l : List Pr} {s : Int} {D : Nat → Ds} {Y : Py} (h : OneS r p n hn on u l s D Y) {i : Nat} (hi : i < n) (hd : DsOK (D i)) : (Y.S.th i).busy = true := by
  have hT := h.ths i hi
  cases e : D i with
  | idle _ => rw [e] at hd; exact hd.elim
  | load op late lf => rw [e] at hT; exact hT.1
  | swap op late l0 l1 s0 s1 lf => rw [e] at hT; exact hT.1
theorem OneS.over {r : Int} {p : PolR} {n hn on u : Nat} {l : List Pr} {s : Int} {D : Nat → Ds} {Y : Py} (h : OneS r p n hn on u l s D Y) {i : Nat} (hi : i < n) (hd : DsOK (D i)) (hl : l.length < 2) (hs : Sorted l) (hbz : ((Y.stepped i).S.th i).busy = false) :
    ((Y.stepped i).S.th i).over = true ∧ ((Y.stepped i).S.th i).ans.pairs = [] := by
  have hin : i < Y.S.ths.length := by rw [h.nth]; exact hi
  have hb := h.busy hi hd
  rw [stepped_busy hb] at hbz ⊢
  have hbz : ((Y.S.step i).th i).busy = false := hbz
  show ((Y.S.step i).th i).over = true ∧ ((Y.S.step i).th i).ans.pairs = []
  have hT := h.ths i hi
  cases e : D i with
  | idle _ => rw [e] at hd; exact hd.elim
  | load op late lf =>
    rw [e] at hT hd
    obtain ⟨_, hlf, hop, ho, hlt, hx⟩ := hT
    obtain ⟨a', x1, x2, x3, x4, x5⟩ := step_upd hin hx h.cell h.base hs (by omega) h.fit (by rw [hop]; exact hd)
    rcases x5 with ⟨now, hu, _⟩ | ⟨hu, _⟩
    · rw [hu.self hin] at hbz
      have hbz : (Y.S.th i).busy = false := hbz
      rw [hb] at hbz; cases hbz
    · rw [hu.self hin]; exact ⟨rfl, rfl⟩
  | swap op late l0 l1 s0 s1 lf =>
    rw [e] at hT hd
    obtain ⟨_, hlf, hop, ho, hlt, old, now, hx, hro, hrn⟩ := hT
    by_cases hc : holds Y.S.a r = old
    · subst hc
      rcases step_takes hin h.root hx h.cell hrn hd with ⟨_, b, hu⟩ | ⟨_, hu⟩
      · rw [hu.self hin] at hbz
        have hbz : (Y.S.th i).busy = false := hbz
        rw [hb] at hbz; cases hbz
      · rw [hu.self hin]; exact ⟨rfl, hadL_pairs _ _⟩
    · have hu := step_late hin hx h.cell hc
      rw [hu.self hin] at hbz
      have hbz : (Y.S.th i).busy = false := hbz
      rw [hb] at hbz; cases hbz
theorem OneS.asks {r : Int} {p : PolR} {n hn on u : Nat} {l : List Pr} {s : Int} {D : Nat → Ds} {Y : Py} (h : OneS r p n hn on u l s D Y) {i : Nat} (hi : i < n) (hd : DsOK (D i)) (hon : on ≤ 100) : ∃ k, (Y.S.th i).next = some k ∧ OKN (Y.S.rest i) i k := by
  have hin : i < Y.S.ths.length := by rw [h.nth]; exact hi
  have hT := h.ths i hi
  have ho := h.order
  cases e : D i with
  | idle _ => rw [e] at hd; exact hd.elim
  | load op late lf =>
    rw [e] at hT hd
    obtain ⟨_, hlf, hop, _, hlt, hx⟩ := hT
    exact ⟨_, hx, okn_upd h.cell h.base hin (by rw [hop]; exact hd)⟩
  | swap op late l0 l1 s0 s1 lf =>
    rw [e] at hT hd
    obtain ⟨_, hlf, hop, _, hlt, old, now, hx, hro, hrn⟩ := hT
    exact ⟨_, hx, okn_swap h.cell hrn hd (by omega)⟩
theorem OneS.ok_busy {r : Int} {p : PolR} {n hn on u : Nat} {l : List Pr} {s : Int} {D : Nat → Ds} {Y : Py} (h : OneS r p n hn on u l s D Y) {i : Nat} (hi : i < n) (hd : DsOK (D i)) (hl : l.length < 2) (hs : Sorted l) (hon : on ≤ 100) (hhn : hn ≤ 100) :
    PickOK Y i ∧ Y.any i = true ∧ Y.pick i = (Y.stepped i).told i := by
  have hb := h.busy hi hd
  have ha : Y.any i = true := (any_iff Y i).2 (.inl hb)
  have hbg := begun_busy hb
  have hh := h.hist
  refine ⟨⟨fun op lf hb2 _ => (by rw [hb] at hb2; cases hb2), fun _ => by rw [hbg]; exact hb, fun _ => by rw [hbg]; exact h.asks hi hd hon, fun _ hz => ?_, by omega⟩, ha, ?_⟩
  · rw [hbg] at hz ⊢
    obtain ⟨h1, h2⟩ := h.over hi hd hl hs hz
    exact ⟨h1, by rw [h2]; simp⟩
  · unfold Py.pick; rw [if_pos ha, hbg]
theorem OneS.ok_idle {r : Int} {p : PolR} {n hn on u : Nat} {l : List Pr} {s : Int} {D : Nat → Ds} {Y : Py} (h : OneS r p n hn on u l s D Y) {i : Nat} (hi : i < n) {op : OpR} {lf : List OpR} (hd : D i = .idle (op :: lf)) (hk : op.kind = 1 ∨ op.kind = 2 ∨ op.kind = 3) (hl : l.length < 2) (hs : Sorted l) (hon : on ≤ 100) (hhn : hn ≤ 100) :
    PickOK Y i ∧ Y.any i = true ∧ Y.pick i = ((Y.begun i).stepped i).told i := by
  have hT := h.ths i hi
  rw [hd] at hT
  obtain ⟨hb, hlf⟩ := hT
  have ha : Y.any i = true := (any_iff Y i).2 (.inr (by rw [hlf]; simp))
  obtain ⟨g, _⟩ := h.begun hi hd hk
  have hd' : DsOK (setD D i (.load op false lf) i) := by rw [setD_same]; exact hk
  have hh := h.hist
  refine ⟨⟨fun op' lf' _ e => ?_, fun _ => g.busy hi hd', fun _ => g.asks hi hd' hon, fun _ hz => ?_, by omega⟩, ha, ?_⟩
  · rw [hlf] at e
    injection e with e _
    subst e
    rcases hk with hk | hk | hk
    · exact .inl hk
    · exact .inr (.inl hk)
    · exact .inr (.inr (.inl hk))
  · obtain ⟨h1, h2⟩ := g.over hi hd' hl hs hz
    exact ⟨h1, by rw [h2]; simp⟩
  · unfold Py.pick; rw [if_pos ha]
theorem OneS.ok_none {r : Int} {p : PolR} {n hn on u : Nat} {l : List Pr} {s : Int} {D : Nat → Ds} {Y : Py} (h : OneS r p n hn on u l s D Y) {i : Nat} (hi : i < n) (hd : D i = .idle []) (hhn : hn ≤ 100) : PickOK Y i ∧ Y.any i = false := by
  have hT := h.ths i hi
  rw [hd] at hT
  obtain ⟨hb, hlf⟩ := hT
  have hh := h.hist
  have ha : Y.any i = false := by
    cases hz : Y.any i with
    | false => rfl
    | true =>
      rcases (any_iff Y i).1 hz with h1 | h1
      · rw [hb] at h1; cases h1
      · exact absurd hlf h1
  exact ⟨⟨fun op lf _ e => (by rw [hlf] at e; cases e), fun e => (by rw [ha] at e; cases e), fun e => (by rw [ha] at e; cases e), fun e => (by rw [ha] at e; cases e), by omega⟩, ha⟩
def eagerP : PolR := ⟨1, -1, 2, -1, 3⟩
theorem clamp_eager : clampP eagerP = eagerP := by unfold clampP heldP eagerP; rfl
def put1 : OpR := ⟨1, 1, 0, 5⟩
def cut1 : OpR := ⟨3, 1, 0, 0⟩
def put2 : OpR := ⟨1, 2, 0, 0⟩
/-- Where the script stands. -/
def Aw (hn on u : Nat) (l : List Pr) (s : Int) (d0 d1 : Ds) (Y : Py) : Prop := ∃ D, OneS 1 eagerP 2 hn on u l s D Y ∧ D 0 = d0 ∧ D 1 = d1
def leftA : List (List OpR) := [[put1, cut1], [put2]]
theorem aw0 : Aw 0 0 2 [] 0 (.idle [put1, cut1]) (.idle [put2]) (py0 2 9000 eagerP leftA) := by
  obtain ⟨_, ea, er, et, eo, _, ep, _⟩ := newX_eq 2 (cells := 9000) (by omega) (by omega) eagerP
  have hth : ∀ i, (newX 2 9000 eagerP).th i = th0 := fun i => by
    unfold Ix.th
    rw [et, List.getD_eq_getElem?_getD, List.getElem?_replicate]
    split <;> rfl
  refine ⟨fun i => if i = 0 then .idle [put1, cut1] else .idle [put2], ⟨by show (newX 2 9000 eagerP).ths.length = 2; rw [et]; rfl, rfl, rfl, er, by show (newX 2 9000 eagerP).p = _; rw [ep, clamp_eager], by show isCell (some (newX 2 9000 eagerP).a) 1 = true; rw [ea]; exact ar0_cell _, by show RecB (newX 2 9000 eagerP).a 1 (holds (newX 2 9000 eagerP).a 1) [] 0; rw [ea]; exact ar0_rec _, by show fits (newX 2 9000 eagerP).a; rw [ea]; exact ar0_fits (by omega), by show (newX 2 9000 eagerP).a.room = 9000; rw [ea]; rfl, by show (newX 2 9000 eagerP).a.slots.length ≤ 2; rw [ea]; simp [ar0], rfl, by show (newX 2 9000 eagerP).order.length = 0; rw [eo]; rfl, fun i hi => ?_⟩, rfl, rfl⟩
  have h2 : i = 0 ∨ i = 1 := by omega
  rcases h2 with rfl | rfl
  · exact ⟨by show ((newX 2 9000 eagerP).th 0).busy = false; rw [hth]; rfl, rfl⟩
  · exact ⟨by show ((newX 2 9000 eagerP).th 1).busy = false; rw [hth]; rfl, rfl⟩
def sel (i : Nat) (a b : Ds) : Ds := if i = 0 then a else b
theorem sel_of {D : Nat → Ds} {i : Nat} (hi : i < 2) {d0 d1 : Ds} (h0 : D 0 = d0) (h1 : D 1 = d1) : D i = sel i d0 d1 := by
  have h2 : i = 0 ∨ i = 1 := by omega
  rcases h2 with rfl | rfl
  · exact h0
  · exact h1
def put_ (i : Nat) (x a b : Ds) (k : Nat) : Ds := if k = i then x else sel k a b
theorem put_of {D : Nat → Ds} {i : Nat} {x d0 d1 : Ds} (h0 : D 0 = d0) (h1 : D 1 = d1) : setD D i x 0 = put_ i x d0 d1 0 ∧ setD D i x 1 = put_ i x d0 d1 1 := by
  unfold setD put_ sel
  rw [h0, h1]
  exact ⟨rfl, rfl⟩
theorem put_put {i k : Nat} {x y a b : Ds} : put_ i y (put_ i x a b 0) (put_ i x a b 1) k = put_ i y a b k ∨ 2 ≤ k := by
  by_cases h : k < 2
  · left
    have h2 : k = 0 ∨ k = 1 := by omega
    unfold put_ sel
    rcases h2 with rfl | rfl <;> by_cases hi : i = 0 <;> by_cases hj : i = 1 <;> simp_all <;> omega
  · right; omega
theorem aw_begin {hn on u : Nat} {l : List Pr} {s : Int} {d0 d1 : Ds} {Y : Py} (h : Aw hn on u l s d0 d1 Y) (i : Nat) (hi : i < 2) {op : OpR} {lf : List OpR} (hd : sel i d0 d1 = .idle (op :: lf)) (hk : op.kind = 1 ∨ op.kind = 2 ∨ op.kind = 3) (hl : l.length < 2) (hs : Sorted l) (hu : u ≤ 100) (hon : on ≤ 50) (hhn : hn ≤ 50) {l1 : List Pr} {s1 : Int} (el : doL op l = l1) (es : nextS eagerP s 2 = s1) :
    PickOK Y i ∧ Y.any i = true ∧ Aw (hn + 1) on (u + 6) l s (put_ i (.swap op false l l1 s s1 lf) d0 d1 0) (put_ i (.swap op false l l1 s s1 lf) d0 d1 1) (Y.pick i) ∧ FreshAt 1 i (Y.pick i) ∧ ∀ j, j ≠ i → FreshAt 1 j Y → FreshAt 1 j (Y.pick i) := by
  obtain ⟨D, hD, h0, h1⟩ := h
  have hdi := (sel_of hi h0 h1).trans hd
  obtain ⟨ok, ha, hp⟩ := hD.ok_idle hi hdi hk hl hs (by omega) (by omega)
  obtain ⟨g, gf⟩ := hD.begun hi hdi hk
  obtain ⟨k, kf, ko⟩ := g.load hi (setD_same _ _ _) hk hl (by omega) hs
  rw [hp]
  refine ⟨ok, ha, ⟨_, k, ?_, ?_⟩, kf, fun j hj hf => ko j hj (gf j hj hf)⟩
  · subst el; subst es
    have h2 := put_of (i := i) (x := .load op false lf) h0 h1
    rw [(put_of (i := i) (x := .swap op false l (doL op l) s (nextS eagerP s (if false = true then 1 else 2)) lf) h2.1 h2.2).1]
    rcases put_put (i := i) (k := 0) (x := .load op false lf) (y := .swap op false l (doL op l) s (nextS eagerP s 2) lf) (a := d0) (b := d1) with h3 | h3
    · exact h3
    · omega
  · subst el; subst es
    have h2 := put_of (i := i) (x := .load op false lf) h0 h1
    rw [(put_of (i := i) (x := .swap op false l (doL op l) s (nextS eagerP s (if false = true then 1 else 2)) lf) h2.1 h2.2).2]
    rcases put_put (i := i) (k := 1) (x := .load op false lf) (y := .swap op false l (doL op l) s (nextS eagerP s 2) lf) (a := d0) (b := d1) with h3 | h3
    · exact h3
    · omega
theorem aw_load {hn on u : Nat} {l : List Pr} {s : Int} {d0 d1 : Ds} {Y : Py} (h : Aw hn on u l s d0 d1 Y) (i : Nat) (hi : i < 2) {op : OpR} {late : Bool} {lf : List OpR} (hd : sel i d0 d1 = .load op late lf) (hk : op.kind = 1 ∨ op.kind = 2 ∨ op.kind = 3) (hl : l.length < 2) (hs : Sorted l) (hu : u ≤ 100) (hon : on ≤ 50) (hhn : hn ≤ 50) {l1 : List Pr} {s1 : Int} (el : doL op l = l1) (es : nextS eagerP s (if late = true then 1 else 2) = s1) :
    PickOK Y i ∧ Y.any i = true ∧ Aw hn on (u + 6) l s (put_ i (.swap op late l l1 s s1 lf) d0 d1 0) (put_ i (.swap op late l l1 s s1 lf) d0 d1 1) (Y.pick i) ∧ FreshAt 1 i (Y.pick i) := by
  obtain ⟨D, hD, h0, h1⟩ := h
  have hdi := (sel_of hi h0 h1).trans hd
  obtain ⟨ok, ha, hp⟩ := hD.ok_busy hi (by rw [hdi]; exact hk) hl hs (by omega) (by omega)
  obtain ⟨k, kf, ko⟩ := hD.load hi hdi hk hl (by omega) hs
  subst el; subst es
  rw [hp]
  exact ⟨ok, ha, ⟨_, k, (put_of h0 h1).1, (put_of h0 h1).2⟩, kf⟩
theorem aw_takes {hn on u : Nat} {l : List Pr} {s : Int} {d0 d1 : Ds} {Y : Py} (h : Aw hn on u l s d0 d1 Y) (i : Nat) (hi : i < 2) (hf : FreshAt 1 i Y) {op : OpR} {late : Bool} {l0 l1 : List Pr} {s0 s1 : Int} {lf : List OpR} (hd : sel i d0 d1 = .swap op late l0 l1 s0 s1 lf) (hl : l.length < 2) (hs : Sorted l) (hl1 : l1.length < 2) (hdec : decideS eagerP s1 ≠ 2) (hon : on ≤ 50) (hhn : hn ≤ 50) :
    PickOK Y i ∧ Y.any i = true ∧ Aw (hn + 1) (on + 1) u l1 s1 (put_ i (.idle lf) d0 d1 0) (put_ i (.idle lf) d0 d1 1) (Y.pick i) := by
  obtain ⟨D, hD, h0, h1⟩ := h
  have hdi := (sel_of hi h0 h1).trans hd
  obtain ⟨ok, ha, hp⟩ := hD.ok_busy hi (by rw [hdi]; exact hl1) hl hs (by omega) (by omega)
  rw [hp]
  exact ⟨ok, ha, ⟨_, hD.takes hi hdi hf hl1 hdec, (put_of h0 h1).1, (put_of h0 h1).2⟩⟩
theorem aw_late {hn on u : Nat} {l : List Pr} {s : Int} {d0 d1 : Ds} {Y : Py} (h : Aw hn on u l s d0 d1 Y) (i : Nat) (hi : i < 2) {op : OpR} {late : Bool} {l0 l1 : List Pr} {s0 s1 : Int} {lf : List OpR} (hd : sel i d0 d1 = .swap op late l0 l1 s0 s1 lf) (hl : l.length < 2) (hs : Sorted l) (hl1 : l1.length < 2) (hne : l ≠ l0) (hon : on ≤ 50) (hhn : hn ≤ 50) :
    PickOK Y i ∧ Y.any i = true ∧ Aw hn on u l s (put_ i (.load op true lf) d0 d1 0) (put_ i (.load op true lf) d0 d1 1) (Y.pick i) := by
  obtain ⟨D, hD, h0, h1⟩ := h
  have hdi := (sel_of hi h0 h1).trans hd
  obtain ⟨ok, ha, hp⟩ := hD.ok_busy hi (by rw [hdi]; exact hl1) hl hs (by omega) (by omega)
  rw [hp]
  exact ⟨ok, ha, ⟨_, hD.late hi hdi hne, (put_of h0 h1).1, (put_of h0 h1).2⟩⟩
theorem aw_none {hn on u : Nat} {l : List Pr} {s : Int} {d0 d1 : Ds} {Y : Py} (h : Aw hn on u l s d0 d1 Y) (i : Nat) (hi : i < 2) (hd : sel i d0 d1 = .idle []) (hhn : hn ≤ 50) : PickOK Y i ∧ Y.any i = false := by
  obtain ⟨D, hD, h0, h1⟩ := h
  exact hD.ok_none hi ((sel_of hi h0 h1).trans hd) (by omega)
def W1 : Ds := .swap put1 false [] [(1, 5)] 0 1 [cut1]
def W2 : Ds := .swap put2 false [] [(2, 0)] 0 1 []
def W3 : Ds := .swap cut1 false [(1, 5)] [] 1 2 []
def W4 : Ds := .swap put2 true [] [(2, 0)] 2 4 []
/-- Behind each pick. -/
def JPa (k : Nat) (Y : Py) : Prop :=
  if k = 0 then Aw 0 0 2 [] 0 (.idle [put1, cut1]) (.idle [put2]) Y
  else if k = 1 then Aw 1 0 8 [] 0 W1 (.idle [put2]) Y ∧ FreshAt 1 0 Y
  else if k = 2 then Aw 2 0 14 [] 0 W1 W2 Y ∧ FreshAt 1 0 Y
  else if k = 3 then Aw 3 1 14 [(1, 5)] 1 (.idle [cut1]) W2 Y
  else Aw 3 1 14 [(1, 5)] 1 (.idle [cut1]) (.load put2 true []) Y
def A6 (Y : Py) : Prop := Aw 5 2 20 [] 2 (.idle []) (.load put2 true []) Y
def A8 (Y : Py) : Prop := Aw 6 3 26 [(2, 0)] 4 (.idle []) (.idle []) Y
def Ja (t : Nat) (Y : Py) : Prop :=
  if t = 0 then JPa 4 Y ∨ (Aw 4 1 20 [(1, 5)] 1 W3 (.load put2 true []) Y ∧ FreshAt 1 0 Y) ∨ A6 Y
  else if t = 1 then A6 Y ∨ (Aw 5 2 26 [] 2 (.idle []) W4 Y ∧ FreshAt 1 1 Y) ∨ A8 Y
  else A8 Y
/-- How many steps a thread still has there. -/
def mua (t : Nat) (Y : Py) : Nat := 3 * (Y.left.getD t []).length + if (Y.S.th t).busy = true then (match (Y.S.th t).next with | some (.load _ _) => 2 | _ => 1) else 0
theorem mua_at {hn on u : Nat} {l : List Pr} {s : Int} {d0 d1 : Ds} {Y : Py} (h : Aw hn on u l s d0 d1 Y) (i : Nat) (hi : i < 2) : mua i Y = match sel i d0 d1 with | .idle lf => 3 * lf.length | .load _ _ lf => 3 * lf.length + 2 | .swap _ _ _ _ _ _ lf => 3 * lf.length + 1 := by
  obtain ⟨D, hD, h0, h1⟩ := h
  have hT := hD.ths i hi
  rw [sel_of hi h0 h1] at hT
  unfold mua
  cases e : sel i d0 d1 with
  | idle lf => rw [e] at hT; rw [hT.2, hT.1]; simp
  | load op late lf => rw [e] at hT; rw [hT.2.1, hT.1, hT.2.2.2.2.2]; simp
  | swap op late l0 l1 s0 s1 lf => rw [e] at hT; obtain ⟨g1, g2, _, _, _, old, now, g3, _⟩ := hT; rw [g2, g1, g3]; simp
theorem sorted1 (k v : Int) : Sorted [(k, v)] := by unfold Sorted; simp
theorem plan_awake : Plan 2 [0, 1, 0, 1] (py0 2 9000 eagerP leftA) JPa Ja mua where
  start := aw0
  pick := fun k Y hk hJ => by
    have hk4 : k < 4 := hk
    have h4 : k = 0 ∨ k = 1 ∨ k = 2 ∨ k = 3 := by omega
    rcases h4 with rfl | rfl | rfl | rfl
    · obtain ⟨ok, _, h1, h2, _⟩ := aw_begin (show Aw 0 0 2 [] 0 (.idle [put1, cut1]) (.idle [put2]) Y from hJ) 0 (by omega) (op := put1) (lf := [cut1]) rfl (.inl rfl) (by simp) List.Pairwise.nil (by omega) (by omega) (by omega) (l1 := [(1, 5)]) (s1 := 1) rfl rfl
      exact ⟨ok, h1, h2⟩
    · obtain ⟨h0, hf⟩ := (show Aw 1 0 8 [] 0 W1 (.idle [put2]) Y ∧ FreshAt 1 0 Y from hJ)
      obtain ⟨ok, _, h1, h2, h3⟩ := aw_begin h0 1 (by omega) (op := put2) (lf := []) rfl (.inl rfl) (by simp) List.Pairwise.nil (by omega) (by omega) (by omega) (l1 := [(2, 0)]) (s1 := 1) rfl rfl
      exact ⟨ok, h1, h3 0 (by omega) hf⟩
    · obtain ⟨h0, hf⟩ := (show Aw 2 0 14 [] 0 W1 W2 Y ∧ FreshAt 1 0 Y from hJ)
      obtain ⟨ok, _, h1⟩ := aw_takes h0 0 (by omega) hf (op := put1) (late := false) (l0 := []) (l1 := [(1, 5)]) (s0 := 0) (s1 := 1) (lf := [cut1]) rfl (by simp) List.Pairwise.nil (by simp) (by decide) (by omega) (by omega)
      exact ⟨ok, h1⟩
    · have h0 := (show Aw 3 1 14 [(1, 5)] 1 (.idle [cut1]) W2 Y from hJ)
      obtain ⟨ok, _, h1⟩ := aw_late h0 1 (by omega) (op := put2) (late := false) (l0 := []) (l1 := [(2, 0)]) (s0 := 0) (s1 := 1) (lf := []) rfl (by simp) (sorted1 _ _) (by simp) (by simp) (by omega) (by omega)
      exact ⟨ok, h1⟩
  turn := fun Y hJ => .inl hJ
  alone := fun t ht Y hJ => by
    have h2 : t = 0 ∨ t = 1 := by omega
    rcases h2 with rfl | rfl
    · rcases (show JPa 4 Y ∨ (Aw 4 1 20 [(1, 5)] 1 W3 (.load put2 true []) Y ∧ FreshAt 1 0 Y) ∨ A6 Y from hJ) with h0 | ⟨h0, hf⟩ | h0
      · have h0 := (show Aw 3 1 14 [(1, 5)] 1 (.idle [cut1]) (.load put2 true []) Y from h0)
        obtain ⟨ok, ha, h1, h2, _⟩ := aw_begin h0 0 (by omega) (op := cut1) (lf := []) rfl (.inr (.inr rfl)) (by simp) (sorted1 _ _) (by omega) (by omega) (by omega) (l1 := []) (s1 := 2) rfl rfl
        refine ⟨ok, fun _ => ⟨.inr (.inl ⟨h1, h2⟩), ?_⟩, fun e => (by rw [ha] at e; cases e)⟩
        rw [mua_at h1 0 (by omega), mua_at h0 0 (by omega)]; decide
      · obtain ⟨ok, ha, h1⟩ := aw_takes h0 0 (by omega) hf (op := cut1) (late := false) (l0 := [(1, 5)]) (l1 := []) (s0 := 1) (s1 := 2) (lf := []) rfl (by simp) (sorted1 _ _) (by simp) (by decide) (by omega) (by omega)
        refine ⟨ok, fun _ => ⟨.inr (.inr h1), ?_⟩, fun e => (by rw [ha] at e; cases e)⟩
        rw [mua_at h1 0 (by omega), mua_at h0 0 (by omega)]; decide
      · obtain ⟨ok, ha⟩ := aw_none h0 0 (by omega) rfl (by omega)
        exact ⟨ok, fun e => (by rw [ha] at e; cases e), fun _ => .inl h0⟩
    · rcases (show A6 Y ∨ (Aw 5 2 26 [] 2 (.idle []) W4 Y ∧ FreshAt 1 1 Y) ∨ A8 Y from hJ) with h0 | ⟨h0, hf⟩ | h0
      · obtain ⟨ok, ha, h1, h2⟩ := aw_load h0 1 (by omega) (op := put2) (late := true) (lf := []) rfl (.inl rfl) (by simp) List.Pairwise.nil (by omega) (by omega) (by omega) (l1 := [(2, 0)]) (s1 := 4) rfl rfl
        refine ⟨ok, fun _ => ⟨.inr (.inl ⟨h1, h2⟩), ?_⟩, fun e => (by rw [ha] at e; cases e)⟩
        rw [mua_at h1 1 (by omega), mua_at h0 1 (by omega)]; decide
      · obtain ⟨ok, ha, h1⟩ := aw_takes h0 1 (by omega) hf (op := put2) (late := true) (l0 := []) (l1 := [(2, 0)]) (s0 := 2) (s1 := 4) (lf := []) rfl (by simp) List.Pairwise.nil (by simp) (by decide) (by omega) (by omega)
        refine ⟨ok, fun _ => ⟨.inr (.inr h1), ?_⟩, fun e => (by rw [ha] at e; cases e)⟩
        rw [mua_at h1 1 (by omega), mua_at h0 1 (by omega)]; decide
      · obtain ⟨ok, ha⟩ := aw_none h0 1 (by omega) rfl (by omega)
        exact ⟨ok, fun e => (by rw [ha] at e; cases e), fun _ => h0⟩
  lt := by decide
  order := fun Y hJ => by
    obtain ⟨D, hD, _⟩ := (show A8 Y from hJ)
    have := hD.order
    omega
end Go.Proofs.YtghjnkfocjjlnaaGreat
end
section
namespace Go.Proofs.YtghjnkfocjjlnaaGreat
set_option maxRecDepth 100000
open Go.RowKit Go.Proofs.YtghjnkfocjjlnaaGreatW.PrintWords Go.Proofs.YtghjnkfocjjlnaaGreatW.PrintLast
set_option linter.unusedVariables false
set_option linter.unusedSimpArgs false
set_option maxRecDepth 100000 in
set_option maxHeartbeats 4000000 in
theorem xeager_any (w : World) :
    Calls Tryz.prog 7 #[] w fun e w' => e = .returned (.agg #[.int .i64 1, .int .i64 (-1), .int .i64 2, .int .i64 (-1), .int .i64 3]) ∧ Below w.heap.size w w' := by
  have B0 := Lib.hid (show Below w.heap.size w (w.alloc (.cells #[.int .i64 0, .int .i64 0, .int .i64 0, .int .i64 0, .int .i64 0] 24)) from (Below.refl _ _).alloc (Nat.le_refl _) _)
  have E0 := Lib.hid (heap_alloc_new w (.cells #[.int .i64 0, .int .i64 0, .int .i64 0, .int .i64 0, .int .i64 0] 24))
  have x0 := cell_blk (i := 0) E0.out rfl
  have x1 := cell_blk (i := 1) E0.out rfl
  have x2 := cell_blk (i := 2) E0.out rfl
  have x3 := cell_blk (i := 3) E0.out rfl
  have x4 := cell_blk (i := 4) E0.out rfl
  have f0 := free_blk (i := 0) E0.out
  have f1 := free_blk (i := 1) E0.out
  have f2 := free_blk (i := 2) E0.out
  have f3 := free_blk (i := 3) E0.out
  have f4 := free_blk (i := 4) E0.out
  go_enter Tryz.func7, Tryz.ntmps7
  go_wp2_with fail
  refine bodyPost_ret (v := .agg #[.int .i64 1, .int .i64 (-1), .int .i64 2, .int .i64 (-1), .int .i64 3]) (by simp [results, Tryz.results7, go_sem]) rfl ?_
  refine ⟨rfl, ?_⟩
  first
    | exact B0.out
    | exact (Below.refl _ _).alloc (Nat.le_refl _) _
    | exact (((((B0.out.setCell (Nat.le_refl _) _).setCell (Nat.le_refl _) _).setCell (Nat.le_refl _) _).setCell (Nat.le_refl _) _).setCell (Nat.le_refl _) _)
/-- A literal block of operations is read. -/
theorem OpIn.lit {w : World} {b : Nat} {cs : Array Value} {t : TypeId} (h : w.heap[b]? = some (.cells cs t (0, 0))) {l : List OpR} (hc : cs.toList = l.flatMap opL) : OpIn w (some ⟨b, 0, none⟩) l.length l := by
  refine ⟨Nat.le_refl _, .inr ⟨b, 0, rfl, fun j hj k hk => ?_⟩⟩
  have h1 := opL_flat l hj hk
  rw [← hc] at h1
  have h2 : cs[j * 4 + k]? = some ((opL (l.getD j op0)).getD k default) := by rw [← Array.getElem?_toList, h1]; exact opL_at _ k hk
  rw [Nat.zero_add, opL_at _ k hk]
  exact cell_blk (i := j * 4 + k) h h2
set_option maxRecDepth 100000 in
set_option maxHeartbeats 4000000 in
theorem awake_any (w : World) :
    Calls Tryz.prog 4 #[] w fun e w' => e = .returned (.bool true) ∧ Below w.heap.size w w' := by
  have EG := Lib.hid (xeager_any w)
  go_enter Tryz.func4, Tryz.ntmps4
  go_wp2_with fail
  refine EG.out.mono ?_
  rintro e w1 ⟨rfl, b1⟩
  have B1 := Lib.hid b1
  clear b1 EG
  have b5 : Below w1.heap.size w1 ((((w1.alloc (.cells #[.int .i64 1, .int .i64 1, .int .i64 0, .int .i64 5, .int .i64 3, .int .i64 1, .int .i64 0, .int .i64 0] 32)).alloc (.cells #[.int .i64 1, .int .i64 2, .int .i64 0, .int .i64 0] 32)).alloc (.cells #[.slice (some ⟨w1.heap.size, 0, none⟩) 2 2, .slice (some ⟨w1.heap.size + 1, 0, none⟩) 1 1] 33)).alloc (.cells #[.int .i64 0, .int .i64 1, .int .i64 0, .int .i64 1] 3)) := ((((Below.refl w1.heap.size w1).alloc (Nat.le_refl _) _).alloc (by simp) _).alloc (by simp; omega) _).alloc (by simp; omega) _
  have o1 : ((((w1.alloc (.cells #[.int .i64 1, .int .i64 1, .int .i64 0, .int .i64 5, .int .i64 3, .int .i64 1, .int .i64 0, .int .i64 0] 32)).alloc (.cells #[.int .i64 1, .int .i64 2, .int .i64 0, .int .i64 0] 32)).alloc (.cells #[.slice (some ⟨w1.heap.size, 0, none⟩) 2 2, .slice (some ⟨w1.heap.size + 1, 0, none⟩) 1 1] 33)).alloc (.cells #[.int .i64 0, .int .i64 1, .int .i64 0, .int .i64 1] 3)).heap[w1.heap.size]? = some (.cells #[.int .i64 1, .int .i64 1, .int .i64 0, .int .i64 5, .int .i64 3, .int .i64 1, .int .i64 0, .int .i64 0] 32 (0, 0)) := by
    have h := heap_alloc_new w1 (.cells #[.int .i64 1, .int .i64 1, .int .i64 0, .int .i64 5, .int .i64 3, .int .i64 1, .int .i64 0, .int .i64 0] 32)
    exact ((((Below.refl _ _).alloc (Nat.le_refl _) (.cells #[.int .i64 0, .int .i64 1, .int .i64 0, .int .i64 1] 3)).block _ (lt_of_some (((((Below.refl _ _).alloc (Nat.le_refl _) (.cells #[.slice (some ⟨w1.heap.size, 0, none⟩) 2 2, .slice (some ⟨w1.heap.size + 1, 0, none⟩) 1 1] 33)).block _ (lt_of_some (((((Below.refl _ _).alloc (Nat.le_refl _) (.cells #[.int .i64 1, .int .i64 2, .int .i64 0, .int .i64 0] 32)).block _ (lt_of_some (h))).trans (h))))).trans (((((Below.refl _ _).alloc (Nat.le_refl _) (.cells #[.int .i64 1, .int .i64 2, .int .i64 0, .int .i64 0] 32)).block _ (lt_of_some (h))).trans (h))))))).trans (((((Below.refl _ _).alloc (Nat.le_refl _) (.cells #[.slice (some ⟨w1.heap.size, 0, none⟩) 2 2, .slice (some ⟨w1.heap.size + 1, 0, none⟩) 1 1] 33)).block _ (lt_of_some (((((Below.refl _ _).alloc (Nat.le_refl _) (.cells #[.int .i64 1, .int .i64 2, .int .i64 0, .int .i64 0] 32)).block _ (lt_of_some (h))).trans (h))))).trans (((((Below.refl _ _).alloc (Nat.le_refl _) (.cells #[.int .i64 1, .int .i64 2, .int .i64 0, .int .i64 0] 32)).block _ (lt_of_some (h))).trans (h))))))
  have o2 : ((((w1.alloc (.cells #[.int .i64 1, .int .i64 1, .int .i64 0, .int .i64 5, .int .i64 3, .int .i64 1, .int .i64 0, .int .i64 0] 32)).alloc (.cells #[.int .i64 1, .int .i64 2, .int .i64 0, .int .i64 0] 32)).alloc (.cells #[.slice (some ⟨w1.heap.size, 0, none⟩) 2 2, .slice (some ⟨w1.heap.size + 1, 0, none⟩) 1 1] 33)).alloc (.cells #[.int .i64 0, .int .i64 1, .int .i64 0, .int .i64 1] 3)).heap[w1.heap.size + 1]? = some (.cells #[.int .i64 1, .int .i64 2, .int .i64 0, .int .i64 0] 32 (0, 0)) := by
    have h := heap_alloc_new (w1.alloc (.cells #[.int .i64 1, .int .i64 1, .int .i64 0, .int .i64 5, .int .i64 3, .int .i64 1, .int .i64 0, .int .i64 0] 32)) (.cells #[.int .i64 1, .int .i64 2, .int .i64 0, .int .i64 0] 32)
    rw [show (w1.alloc (.cells #[.int .i64 1, .int .i64 1, .int .i64 0, .int .i64 5, .int .i64 3, .int .i64 1, .int .i64 0, .int .i64 0] 32)).heap.size = w1.heap.size + 1 from by simp] at h
    exact ((((Below.refl _ _).alloc (Nat.le_refl _) (.cells #[.int .i64 0, .int .i64 1, .int .i64 0, .int .i64 1] 3)).block _ (lt_of_some (((((Below.refl _ _).alloc (Nat.le_refl _) (.cells #[.slice (some ⟨w1.heap.size, 0, none⟩) 2 2, .slice (some ⟨w1.heap.size + 1, 0, none⟩) 1 1] 33)).block _ (lt_of_some (h))).trans (h))))).trans (((((Below.refl _ _).alloc (Nat.le_refl _) (.cells #[.slice (some ⟨w1.heap.size, 0, none⟩) 2 2, .slice (some ⟨w1.heap.size + 1, 0, none⟩) 1 1] 33)).block _ (lt_of_some (h))).trans (h))))
  have o3 : ((((w1.alloc (.cells #[.int .i64 1, .int .i64 1, .int .i64 0, .int .i64 5, .int .i64 3, .int .i64 1, .int .i64 0, .int .i64 0] 32)).alloc (.cells #[.int .i64 1, .int .i64 2, .int .i64 0, .int .i64 0] 32)).alloc (.cells #[.slice (some ⟨w1.heap.size, 0, none⟩) 2 2, .slice (some ⟨w1.heap.size + 1, 0, none⟩) 1 1] 33)).alloc (.cells #[.int .i64 0, .int .i64 1, .int .i64 0, .int .i64 1] 3)).heap[w1.heap.size + 2]? = some (.cells #[.slice (some ⟨w1.heap.size, 0, none⟩) 2 2, .slice (some ⟨w1.heap.size + 1, 0, none⟩) 1 1] 33 (0, 0)) := by
    have h := heap_alloc_new ((w1.alloc (.cells #[.int .i64 1, .int .i64 1, .int .i64 0, .int .i64 5, .int .i64 3, .int .i64 1, .int .i64 0, .int .i64 0] 32)).alloc (.cells #[.int .i64 1, .int .i64 2, .int .i64 0, .int .i64 0] 32)) (.cells #[.slice (some ⟨w1.heap.size, 0, none⟩) 2 2, .slice (some ⟨w1.heap.size + 1, 0, none⟩) 1 1] 33)
    rw [show ((w1.alloc (.cells #[.int .i64 1, .int .i64 1, .int .i64 0, .int .i64 5, .int .i64 3, .int .i64 1, .int .i64 0, .int .i64 0] 32)).alloc (.cells #[.int .i64 1, .int .i64 2, .int .i64 0, .int .i64 0] 32)).heap.size = w1.heap.size + 2 from by simp] at h
    exact ((((Below.refl _ _).alloc (Nat.le_refl _) (.cells #[.int .i64 0, .int .i64 1, .int .i64 0, .int .i64 1] 3)).block _ (lt_of_some (h))).trans (h))
  have o4 : ((((w1.alloc (.cells #[.int .i64 1, .int .i64 1, .int .i64 0, .int .i64 5, .int .i64 3, .int .i64 1, .int .i64 0, .int .i64 0] 32)).alloc (.cells #[.int .i64 1, .int .i64 2, .int .i64 0, .int .i64 0] 32)).alloc (.cells #[.slice (some ⟨w1.heap.size, 0, none⟩) 2 2, .slice (some ⟨w1.heap.size + 1, 0, none⟩) 1 1] 33)).alloc (.cells #[.int .i64 0, .int .i64 1, .int .i64 0, .int .i64 1] 3)).heap[w1.heap.size + 3]? = some (.cells #[.int .i64 0, .int .i64 1, .int .i64 0, .int .i64 1] 3 (0, 0)) := by
    have h := heap_alloc_new (((w1.alloc (.cells #[.int .i64 1, .int .i64 1, .int .i64 0, .int .i64 5, .int .i64 3, .int .i64 1, .int .i64 0, .int .i64 0] 32)).alloc (.cells #[.int .i64 1, .int .i64 2, .int .i64 0, .int .i64 0] 32)).alloc (.cells #[.slice (some ⟨w1.heap.size, 0, none⟩) 2 2, .slice (some ⟨w1.heap.size + 1, 0, none⟩) 1 1] 33)) (.cells #[.int .i64 0, .int .i64 1, .int .i64 0, .int .i64 1] 3)
    rw [show (((w1.alloc (.cells #[.int .i64 1, .int .i64 1, .int .i64 0, .int .i64 5, .int .i64 3, .int .i64 1, .int .i64 0, .int .i64 0] 32)).alloc (.cells #[.int .i64 1, .int .i64 2, .int .i64 0, .int .i64 0] 32)).alloc (.cells #[.slice (some ⟨w1.heap.size, 0, none⟩) 2 2, .slice (some ⟨w1.heap.size + 1, 0, none⟩) 1 1] 33)).heap.size = w1.heap.size + 3 from by simp] at h
    exact h
  have O1 := Lib.hid o1
  have O2 := Lib.hid o2
  have O3 := Lib.hid o3
  have O4 := Lib.hid o4
  have B5 := Lib.hid (B1.out.trans (b5.mono B1.out.size))
  clear o1 o2 o3 o4 b5
  have hcl : ∀ w', Below ((((w1.alloc (.cells #[.int .i64 1, .int .i64 1, .int .i64 0, .int .i64 5, .int .i64 3, .int .i64 1, .int .i64 0, .int .i64 0] 32)).alloc (.cells #[.int .i64 1, .int .i64 2, .int .i64 0, .int .i64 0] 32)).alloc (.cells #[.slice (some ⟨w1.heap.size, 0, none⟩) 2 2, .slice (some ⟨w1.heap.size + 1, 0, none⟩) 1 1] 33)).alloc (.cells #[.int .i64 0, .int .i64 1, .int .i64 0, .int .i64 1] 3)).heap.size ((((w1.alloc (.cells #[.int .i64 1, .int .i64 1, .int .i64 0, .int .i64 5, .int .i64 3, .int .i64 1, .int .i64 0, .int .i64 0] 32)).alloc (.cells #[.int .i64 1, .int .i64 2, .int .i64 0, .int .i64 0] 32)).alloc (.cells #[.slice (some ⟨w1.heap.size, 0, none⟩) 2 2, .slice (some ⟨w1.heap.size + 1, 0, none⟩) 1 1] 33)).alloc (.cells #[.int .i64 0, .int .i64 1, .int .i64 0, .int .i64 1] 3)) w' → Calls Tryz.prog 9 #[.agg #[.int .i64 2, .int .i64 9000, .int .i64 1, .int .i64 (-1), .int .i64 2, .int .i64 (-1), .int .i64 3, .slice none 0 0, .slice (some ⟨w1.heap.size + 2, 0, none⟩) 2 2, .slice (some ⟨w1.heap.size + 3, 0, none⟩) 4 4]] w' (CleanP 2 9000 eagerP leftA [0, 1, 0, 1] w') := fun w' hb => by
    have p1 := (hb.block _ (lt_of_some O1.out)).trans O1.out
    have p2 := (hb.block _ (lt_of_some O2.out)).trans O2.out
    have p3 := (hb.block _ (lt_of_some O3.out)).trans O3.out
    have p4 := (hb.block _ (lt_of_some O4.out)).trans O4.out
    have h := xclean_any (w := w') (n := 2) (by omega) (by omega) 9000 (by omega) (by omega) eagerP (ob := w1.heap.size + 2) (oc := 2) (xn := 4) (xc := 4) (xad := some ⟨w1.heap.size + 3, 0, none⟩) (rows := leftA) rfl (fun t ht => by
      have h2 : t = 0 ∨ t = 1 := by omega
      rcases h2 with rfl | rfl
      · exact ⟨_, 2, cell_blk (i := 0) p3 rfl, OpIn.lit p1 (l := [put1, cut1]) rfl⟩
      · exact ⟨_, 1, cell_blk (i := 1) p3 rfl, OpIn.lit p2 (l := [put2]) rfl⟩)
      (fun t ht => by
        have h2 : t = 0 ∨ t = 1 := by omega
        rcases h2 with rfl | rfl
        · exact ⟨by decide, fun o ho => by have ho : o ∈ [put1, cut1] := ho; simp only [List.mem_cons, List.not_mem_nil, or_false] at ho; rcases ho with rfl | rfl <;> first | exact .inl rfl | exact .inr (.inr (.inl rfl))⟩
        · exact ⟨by decide, fun o ho => by have ho : o ∈ [put2] := ho; simp only [List.mem_cons, List.not_mem_nil, or_false] at ho; subst ho; exact .inl rfl⟩)
      (xs := [0, 1, 0, 1]) (.inr ⟨_, 0, rfl, fun k hk => by
        have h4 : k = 0 ∨ k = 1 ∨ k = 2 ∨ k = 3 := by have : k < 4 := hk; omega
        rcases h4 with rfl | rfl | rfl | rfl
        · exact cell_blk (i := 0) p4 rfl
        · exact cell_blk (i := 1) p4 rfl
        · exact cell_blk (i := 2) p4 rfl
        · exact cell_blk (i := 3) p4 rfl⟩) rfl (by omega) (by omega) (fun x hx => by simp only [List.mem_cons, List.not_mem_nil, or_false] at hx; omega)
    rw [clamp_eager] at h
    exact h
  have WH := Lib.hid (whole_any (w := ((((w1.alloc (.cells #[.int .i64 1, .int .i64 1, .int .i64 0, .int .i64 5, .int .i64 3, .int .i64 1, .int .i64 0, .int .i64 0] 32)).alloc (.cells #[.int .i64 1, .int .i64 2, .int .i64 0, .int .i64 0] 32)).alloc (.cells #[.slice (some ⟨w1.heap.size, 0, none⟩) 2 2, .slice (some ⟨w1.heap.size + 1, 0, none⟩) 1 1] 33)).alloc (.cells #[.int .i64 0, .int .i64 1, .int .i64 0, .int .i64 1] 3))) (n := 2) (by omega) (by omega) 9000 (by omega) (by omega) eagerP (newX_eq 2 (cells := 9000) (by omega) (by omega) eagerP).1 (by decide) hcl plan_awake (F := fun Y : Py => Y.S.arena (stepA Y.S.a)) (TQ := fun _ => TQ1 [(2, 0)] 4) (fun W P Y hJ => by
    obtain ⟨D, hD, _⟩ := (show A8 Y from hJ)
    have hu := hD.used
    exact treeC_one (by rw [hD.root]; exact load_cell hD.cell) (hD.base.ek (Ek.step _)) (sorted1 _ _) (by simp) (show Y.S.a.slots.length ≤ 60000 by omega) (fun p hp => by simp only [List.mem_cons, List.not_mem_nil, or_false] at hp; subst hp; decide)))
  clear hcl
  go_wp2_with fail
  refine WH.out.mono ?_
  rintro e w6 ⟨Y, had, hn, hc, hs, tad, no, tc, g, nn, cap, TB, o2, rfl, hJ, hhn, hno, b6, hr, hev, hto, htq, htb⟩
  have B6 := Lib.hid (B5.out.trans (b6.mono B5.out.size))
  obtain ⟨hn6, hno3⟩ : hn = 6 ∧ no = 3 := by
    obtain ⟨D, hD, _⟩ := (show A8 Y from hJ)
    exact ⟨by rw [hhn]; exact hD.hist, by rw [hno]; exact hD.order⟩
  obtain ⟨rfl, pad, pc, hL, _⟩ := htq
  subst hn6
  subst hno3
  obtain ⟨pd, hpd⟩ : ∃ pd : Nat, pd = pendN ((fun Y : Py => Y.S.arena (stepA Y.S.a)) Y) 2 := ⟨_, rfl⟩
  rw [← hpd]
  clear hhn hno hr hev hto htb hJ b6 WH hpd
  generalize (usedO (some ((fun Y : Py => Y.S.arena (stepA Y.S.a)) Y).a)) = x7
  generalize ((fun Y : Py => Y.S.arena (stepA Y.S.a)) Y).steps = x6
  generalize ((fun Y : Py => Y.S.arena (stepA Y.S.a)) Y).splits = x8
  generalize ((fun Y : Py => Y.S.arena (stepA Y.S.a)) Y).joins = x9
  have b7 : Below w6.heap.size w6 (w6.alloc (.cells #[.int .i64 0, .slice had 6 hc, .slice tad 3 tc, .int .i64 0, .slice (some ⟨g, 0, none⟩) 1 cap, .int .i64 (pd : Int), .int .i64 x6, .int .i64 x7, .int .i64 x8, .int .i64 x9] 40)) := (Below.refl _ _).alloc (Nat.le_refl _) _
  have AL := Lib.hid (xtAll_one (hL.later b7) (sorted1 _ _) (by simp) (by omega))
  have B7 := Lib.hid (B6.out.trans (b7.mono B6.out.size))
  have E7 := Lib.hid (heap_alloc_new w6 (.cells #[.int .i64 0, .slice had 6 hc, .slice tad 3 tc, .int .i64 0, .slice (some ⟨g, 0, none⟩) 1 cap, .int .i64 (pd : Int), .int .i64 x6, .int .i64 x7, .int .i64 x8, .int .i64 x9] 40))
  clear b7 hL
  have y0 := cell_blk (i := 0) E7.out rfl
  have y1 := cell_blk (i := 1) E7.out rfl
  have y2 := cell_blk (i := 2) E7.out rfl
  have y3 := cell_blk (i := 3) E7.out rfl
  have y4 := cell_blk (i := 4) E7.out rfl
  go_wp2_with fail
  refine AL.out.mono ?_
  rintro e w8 ⟨ad, c, rfl, hp, b8⟩
  have B8 := Lib.hid (B7.out.trans (b8.mono B7.out.size))
  clear hp b8 AL y0 y1 y2 y3 y4
  go_wp2_with fail
  go_ret
  exact ⟨rfl, B8.out⟩
end Go.Proofs.YtghjnkfocjjlnaaGreat
end
