/- The map that sound.same keeps: its keys, what it knows of treaps. -/
/- What sound.same answers and leaves. -/
import Derived.Test.YtkcfkanfdbejiaaSoundW
import Derived.DeepKeys4
import Derived.Maps.OwnOps
import Derived.Maps.OwnSet
import Derived.Test.YtkcfkanfdbejiaaExactQ
import Derived.Test.YtkcfkanfdbejiaaWMore
namespace Go.Proofs.Ytkcfkanfdbejiaa
set_option maxRecDepth 100000
open Go.RowKit Go.Proofs.Ytkcfkanfdbejiaa.Mix
set_option linter.unusedSimpArgs false
set_option linter.unusedVariables false

theorem snd_laidOut : laidOutB Try.prog = true := by kernel_rfl
theorem snd_row : (80 : TypeId) < Try.prog.types.size := of_decide_eq_true (by kernel_rfl)
theorem snd_wide : (match Try.prog.underlying 80 with | some (.array _ _) | some (.struct _) => true | _ => false) = true := by rw [Try.underlying80]
theorem snd_law : Maps.Keyed Try.prog 80 := Maps.Keyed.of_law (deep_law_laid snd_laidOut (m := 2) (by omega) snd_row (by kernel_rfl) snd_wide)
theorem snd_zero (w : World) : (zeroValue 3).run Try.prog w = .ok (.int .i64 0) w := by kernel_rfl
theorem wf64 {t : Int} (h0 : 0 ≤ t) (h1 : t ≤ 1000000) : (Lit.int .i64 t).wf = true := by
  simp [Lit.wf, IntKind.min, IntKind.max, IntKind.bits, IntKind.signed]; omega
theorem keyOf_pr {t u : Int} (ht : (Lit.int .i64 t).wf = true) (hu : (Lit.int .i64 u).wf = true) : ∃ kl, keyOf Try.prog 80 (.agg #[.int .i64 t, .int .i64 u]) = some kl := by
  obtain ⟨d, hd⟩ : ∃ d, Try.prog.types.size = d + 1 := ⟨Try.prog.types.size - 1, (Nat.sub_add_cancel (Nat.lt_of_le_of_lt (Nat.zero_le _) snd_row)).symm⟩
  have hk : Try.prog.keyType 80 = true := by kernel_rfl
  have hc1 : Try.prog.cellsOf 80 = 2 := by kernel_rfl
  have hci : Try.prog.cellsOf 3 = 1 := by kernel_rfl
  have hi : ∀ z : Int, (Lit.int .i64 z).wf = true → Try.prog.keyLits (d + 1) 3 [.int .i64 z] = some [.int .i64 z] := fun z hz => by
    simp [Program.keyLits, Try.underlying3, hz]
  unfold keyOf
  simp only [Try.underlying80, hk, hd]
  have hf : (Value.agg #[.int .i64 t, .int .i64 u]).formed Try.prog 80 = true := by simp [Value.formed, Try.underlying80, hc1]
  rw [hf]
  have hl : Try.prog.keyLits (d + 1 + 1) 80 [.int .i64 t, .int .i64 u] = some [.int .i64 t, .int .i64 u] := by
    unfold Program.keyLits
    simp only [Try.underlying80]
    simp [hc1, hci, hi t ht, hi u hu]
  simp only [Value.cells]
  rw [hl]
  exact ⟨_, rfl⟩

theorem Tr.uniq {a : Ar} {t : Int} {l : List Pr} (h : Tr a t l) : ∀ {m : List Pr}, Tr a t m → l = m := by
  induction h with
  | nil => intro m hm; cases hm with
    | nil => rfl
    | node t k v x y l1 l2 hn => rw [isN_zero] at hn; cases hn
  | node t k v x y l1 l2 hn hg ht hx hy h1 h2 i1 i2 =>
    intro m hm
    cases hm with
    | nil => rw [isN_zero] at hn; cases hn
    | node _ k' v' x' y' m1 m2 hn' hg' ht' hx' hy' h1' h2' =>
      rw [hg] at hg'
      simp only [Nd.mk.injEq] at hg'
      obtain ⟨rfl, rfl, rfl, rfl, _, _⟩ := hg'
      rw [i1 h1', i2 h2']
abbrev DU := DataW Unit
abbrev MapOf (w : World) (mb n : Nat) (D : DU) : Prop := w.ownsMap Try.prog 80 (plainElem Try.prog 3) mb n D
noncomputable abbrev keyP (t u : Int) : Option Lit := keyOf Try.prog 80 (.agg #[.int .i64 t, .int .i64 u])
noncomputable abbrev zeroD : DU := .lit (.int .i64 0)
/-- What the map knows, but for one key, is so. -/
def MInvX (a : Ar) (x : Option Lit) (D : DU) : Prop := ∀ (t u c : Int) (kl : Lit) (l m : List Pr), keyP t u = some kl → some kl ≠ x → D.atKey kl zeroD = .lit (.int .i64 c) → c ≠ 0 → Tr a t l → Tr a u m → (c = 1 ↔ l = m)
def MInv (a : Ar) (D : DU) : Prop := MInvX a none D
theorem MInv.x {a : Ar} {D : DU} (h : MInv a D) (x : Option Lit) : MInvX a x D := fun t u c kl l m h1 _ h3 h4 h5 h6 => h t u c kl l m h1 (by simp) h3 h4 h5 h6
theorem MInv.start (a : Ar) : MInv a (.map []) := fun t u c kl l m _ _ h3 h4 _ _ => by
  have h3 : zeroD = .lit (.int .i64 c) := h3
  simp only [zeroD, DataW.lit.injEq, Lit.int.injEq, true_and] at h3
  exact absurd h3.symm h4
theorem MInvX.put {a : Ar} {D : DU} {kl : Lit} (h : MInvX a (some kl) D) (d : DU) : MInvX a (some kl) (D.put kl d) := fun t u c kl' l m h1 h2 h3 h4 h5 h6 => by
  rw [Maps.atKey_put_other (fun e => h2 (by rw [e]))] at h3
  exact h t u c kl' l m h1 h2 h3 h4 h5 h6
theorem MInvX.done {a : Ar} {D : DU} {t u c : Int} {kl : Lit} {l m : List Pr} (h : MInvX a (some kl) D) (hD : Maps.IsMap D) (hk : keyP t u = some kl) (h1 : Tr a t l) (h2 : Tr a u m) (hc : c = 1 ↔ l = m) : MInv a (D.put kl (.lit (.int .i64 c))) :=
  fun t' u' c' kl' l' m' k1 _ k3 k4 k5 k6 => by
    by_cases e : kl' = kl
    · subst e
      have hv := snd_law.inj k1 hk
      simp only [Value.agg.injEq, Array.mk.injEq, List.cons.injEq, Value.int.injEq, true_and, and_true] at hv
      obtain ⟨rfl, rfl⟩ := hv
      rw [Maps.atKey_put_same hD (snd_law.key hk)] at k3
      simp only [DataW.lit.injEq, Lit.int.injEq, true_and] at k3
      subst k3
      rw [k5.uniq h1, k6.uniq h2]
      exact hc
    · rw [Maps.atKey_put_other e] at k3
      exact h t' u' c' kl' l' m' k1 (fun e2 => e (Option.some.inj e2)) k3 k4 k5 k6
theorem Frame.cellO {ck : Nat} {w w' : World} (h : Frame (Only ck) w w') {b o : Nat} (hb : b < w.heap.size) (hn : b ≠ ck) : w'.cell? ⟨b, o, none⟩ = w.cell? ⟨b, o, none⟩ := by simp [World.cell?, h.block b hb hn]
theorem MapOf.below {w w' : World} {mb n : Nat} {D : DU} (h : MapOf w mb n D) (hb : Below w.heap.size w w') : MapOf w' mb n D := by
  have hlt := World.ownsMap.lt h
  obtain ⟨es, clock, h1, r⟩ := h
  exact ⟨es, clock, (hb.block mb hlt).trans h1, r⟩
theorem split_eq {l1 l2 m1 m2 : List Pr} {x : Pr} (h1 : top (l1 ++ x :: l2) = (l1.length : Int)) (h2 : top (m1 ++ x :: m2) = (m1.length : Int)) : l1 ++ x :: l2 = m1 ++ x :: m2 ↔ l1 = m1 ∧ l2 = m2 := by
  constructor
  · intro e
    have hl : l1.length = m1.length := by rw [e, h2] at h1; omega
    obtain ⟨e1, e2⟩ := List.append_inj e hl
    exact ⟨e1, by simpa using e2⟩
  · rintro ⟨rfl, rfl⟩; rfl
theorem root_ne {l1 l2 m1 m2 : List Pr} {x y : Pr} (h1 : top (l1 ++ x :: l2) = (l1.length : Int)) (h2 : top (m1 ++ y :: m2) = (m1.length : Int)) (hn : x ≠ y) : l1 ++ x :: l2 ≠ m1 ++ y :: m2 := fun e => by
  have hl : l1.length = m1.length := by rw [e, h2] at h1; omega
  obtain ⟨_, e2⟩ := List.append_inj e hl
  simp only [List.cons.injEq] at e2
  exact hn e2.1

end Go.Proofs.Ytkcfkanfdbejiaa

namespace Go.Proofs.Ytkcfkanfdbejiaa
set_option maxRecDepth 100000
open Go.RowKit Go.Proofs.Ytkcfkanfdbejiaa.Mix Go.Proofs.YtkcfkanfdbejiaaW.PrintWords Go.Proofs.YtkcfkanfdbejiaaW.PrintLast
set_option linter.unusedSimpArgs false
set_option linter.unusedVariables false

/-- What same answers of two treaps, and what it leaves. -/
def SamePost (a : Ar) (w : World) (mb N : Nat) (l m : List Pr) : Ending → World → Prop := fun e w' =>
  e = .returned (.bool (decide (l = m))) ∧ (∃ n' D', MapOf w' mb n' D' ∧ MInv a D' ∧ n' ≤ N) ∧ Frame (Only mb) w w'
theorem SamePost.more {a : Ar} {w : World} {mb N N' : Nat} {l m : List Pr} (h : N ≤ N') (e : Ending) (w' : World) (k : SamePost a w mb N l m e w') : SamePost a w mb N' l m e w' := by
  obtain ⟨h1, ⟨n', D', h2, h3, h4⟩, h5⟩ := k
  exact ⟨h1, ⟨n', D', h2, h3, Nat.le_trans h4 h⟩, h5⟩


end Go.Proofs.Ytkcfkanfdbejiaa

