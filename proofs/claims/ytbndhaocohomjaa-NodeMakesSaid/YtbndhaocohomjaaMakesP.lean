/- Nodes made one behind the other in an arena: what it answers. Plain Lean. -/
import Derived.Test.YtbndhaocohomjaaGrow
import Derived.Test.YtbndhaocohomjaaTree
namespace Go.Proofs.Ytbndhaocohomjaa
set_option maxRecDepth 100000
open Go.RowKit

def valsN (n : Nd) : List Int := [n.key, n.val, n.left, n.right, n.size, n.high]
def slotN (n : Nd) : Slot := ⟨1, valsN n⟩
def okN (n : Nd) : Prop := 1 ≤ n.size ∧ n.size ≤ 1099511627776 ∧ 1 ≤ n.high ∧ n.high ≤ n.size
/-- The arena holds just these nodes. -/
structure Mk (room : Int) (ms : List Nd) (A : Ar) : Prop where
  room : A.room = room
  slots : A.slots = ms.map slotN
  ok : ∀ n ∈ ms, okN n
theorem Mk.len {room : Int} {ms : List Nd} {A : Ar} (h : Mk room ms A) : A.slots.length = ms.length := by rw [h.slots, List.length_map]
theorem Mk.slotAt {room : Int} {ms : List Nd} {A : Ar} (h : Mk room ms A) {j : Nat} (hj : j < ms.length) : slotAt A ((j : Int) + 1) = slotN ms[j] := by
  unfold Go.Proofs.Ytbndhaocohomjaa.slotAt
  rw [show ((j : Int) + 1 - 1).toNat = j by omega, h.slots, List.getD_eq_getElem?_getD, List.getElem?_map, List.getElem?_eq_getElem hj]
  rfl
theorem Mk.yes {room : Int} {ms : List Nd} {A : Ar} (h : Mk room ms A) {j : Nat} (hj : j < ms.length) : isN (some A) ((j : Int) + 1) = true ∧ getN (some A) ((j : Int) + 1) = ms[j] := by
  have hl := h.len
  have hs := h.slotAt hj
  refine ⟨isN_of (by omega) (by omega) (by rw [hs]; rfl), getN_of (by omega) (by omega) (by rw [hs]; rfl)⟩
theorem Mk.no {room : Int} {ms : List Nd} {A : Ar} (h : Mk room ms A) {t : Int} (ht : t < 1 ∨ (ms.length : Int) < t) : isN (some A) t = false ∧ getN (some A) t = ⟨0, 0, 0, 0, 0, 0⟩ := by
  have hl := h.len
  have hn : isN (some A) t = false := by
    cases hb : isN (some A) t with
    | false => rfl
    | true => have := isN_in hb; omega
  exact ⟨hn, getN_no hn⟩
theorem Mk.begin {room : Int} (h0 : 0 ≤ room) (h1 : room ≤ 60000) : Mk room [] (newA room) := ⟨by show min (max room 0) 60000 = room; omega, rfl, fun n hn => by cases hn⟩
/-- A number that may hang: nothing, or one that there is. -/
structure Hang (ms : List Nd) (t s g : Int) : Prop where
  or_ : (t = 0 ∧ s = 0 ∧ g = 0) ∨ ∃ (j : Nat) (hj : j < ms.length), t = (j : Int) + 1 ∧ (ms[j]).size = s ∧ (ms[j]).high = g
theorem hang_of {ms : List Nd} {t : Int} (h0 : 0 ≤ t) (h1 : t ≤ ms.length) : ∃ s g, Hang ms t s g := by
  by_cases h : t = 0
  · exact ⟨0, 0, ⟨.inl ⟨h, rfl, rfl⟩⟩⟩
  · exact ⟨_, _, ⟨.inr ⟨(t - 1).toNat, by omega, by omega, rfl, rfl⟩⟩⟩
theorem Hang.bd {room : Int} {ms : List Nd} {A : Ar} {t s g : Int} (m : Mk room ms A) (h : Hang ms t s g) : 0 ≤ s ∧ s ≤ 1099511627776 ∧ 0 ≤ g ∧ g ≤ s ∧ (t = 0 → s = 0 ∧ g = 0) ∧ (t ≠ 0 → 1 ≤ g) := by
  rcases h.or_ with ⟨rfl, rfl, rfl⟩ | ⟨j, hj, rfl, rfl, rfl⟩
  · omega
  · obtain ⟨h1, h2, h3, h4⟩ := m.ok _ (List.getElem_mem hj)
    omega
theorem Hang.says {room : Int} {ms : List Nd} {A : Ar} {t s g : Int} (m : Mk room ms A) (h : Hang ms t s g) : (t = 0 ∨ isN (some A) t = true) ∧ (getN (some A) t).size = s ∧ (getN (some A) t).high = g := by
  rcases h.or_ with ⟨rfl, rfl, rfl⟩ | ⟨j, hj, rfl, rfl, rfl⟩
  · refine ⟨.inl rfl, ?_, ?_⟩ <;> rw [getN_no (isN_zero A)]
  · obtain ⟨h1, h2⟩ := m.yes hj
    exact ⟨.inr h1, by rw [h2], by rw [h2]⟩
theorem Hang.inb {ms : List Nd} {t s g : Int} (h : Hang ms t s g) : 0 ≤ t ∧ t ≤ ms.length := by
  rcases h.or_ with ⟨rfl, _⟩ | ⟨j, hj, rfl, _⟩ <;> omega
def topH (a b : Int) : Int := if 1 + a < 1 + b then 1 + b else 1 + a
theorem Mk.bad {room : Int} {ms : List Nd} {A : Ar} (h : Mk room ms A) {l r : Int} (k v : Int) (hb : (l < 0 ∨ (ms.length : Int) < l) ∨ r < 0 ∨ (ms.length : Int) < r) : makeN (some A) k v l r = (0, 1, some A) := by
  have hbad : badArg (some A) l r = true := by
    unfold badArg
    rcases hb with hb | hb
    · have := (h.no (t := l) (by omega)).1
      simp [this]
      exact .inl (by omega)
    · have := (h.no (t := r) (by omega)).1
      simp [this]
      exact .inr (by omega)
  unfold makeN
  rw [if_pos hbad]
theorem Mk.full {room : Int} {ms : List Nd} {A : Ar} (h : Mk room ms A) {l r sl gl sr gr : Int} (hl : Hang ms l sl gl) (hr : Hang ms r sr gr) (k v : Int) (hf : (ms.length : Int) = room) : makeN (some A) k v l r = (0, 2, some A) := by
  have hb : badArg (some A) l r = false := by
    unfold badArg
    rcases (hl.says h).1 with r1 | r1 <;> rcases (hr.says h).1 with r2 | r2 <;> simp [r1, r2]
  unfold makeN nodeVals
  rw [hb, if_neg (by decide), makeO_some _ _ _ (by simp), add_full (by rw [h.room, h.len]; omega)]
theorem Mk.good {room : Int} {ms : List Nd} {A : Ar} (h : Mk room ms A) {l r sl gl sr gr : Int} (hl : Hang ms l sl gl) (hr : Hang ms r sr gr) (k v : Int) (hf : (ms.length : Int) < room) :
    ∃ A', makeN (some A) k v l r = ((ms.length : Int) + 1, 0, some A') ∧ (1 + sl + sr ≤ 1099511627776 → Mk room (ms ++ [⟨k, v, l, r, 1 + sl + sr, topH gl gr⟩]) A') := by
  obtain ⟨a1, a2, a3, a4, _, _⟩ := hl.bd h
  obtain ⟨b1, b2, b3, b4, _, _⟩ := hr.bd h
  have hb : badArg (some A) l r = false := by
    unfold badArg
    rcases (hl.says h).1 with r1 | r1 <;> rcases (hr.says h).1 with r2 | r2 <;> simp [r1, r2]
  have hv : nodeVals (some A) k v l r = [k, v, l, r, 1 + sl + sr, topH gl gr] := by
    unfold nodeVals topH
    rw [(hl.says h).2.1, (hl.says h).2.2, (hr.says h).2.1, (hr.says h).2.2]
    have e1 : wrap64 (wrap64 (sl + sr) + 1) = 1 + sl + sr := by unfold wrap64; omega
    have e2 : wrap64 ((if gl < gr then gr else gl) + 1) = if 1 + gl < 1 + gr then 1 + gr else 1 + gl := by
      by_cases hg : gl < gr
      · rw [if_pos hg, if_pos (by omega)]; unfold wrap64; omega
      · rw [if_neg hg, if_neg (by omega)]; unfold wrap64; omega
    rw [e1, e2]
  refine ⟨⟨A.room, A.slots ++ [⟨1, [k, v, l, r, 1 + sl + sr, topH gl gr]⟩], A.steps⟩, ?_, fun hs => ⟨h.room, by rw [h.slots]; simp [slotN, valsN], fun n hn => ?_⟩⟩
  · unfold makeN
    rw [hb, hv, if_neg (by decide), makeO_some _ _ _ (by simp), add_ok (by rw [h.room, h.len]; omega), h.len]
  · rcases List.mem_append.1 hn with hn | hn
    · exact h.ok n hn
    · obtain rfl := List.mem_singleton.1 hn
      refine ⟨by show 1 ≤ 1 + sl + sr; omega, hs, ?_, ?_⟩
      · show 1 ≤ topH gl gr; unfold topH; split <;> omega
      · show topH gl gr ≤ 1 + sl + sr; unfold topH; split <;> omega
theorem rem_len5 (x : Int) (n : Nat) (h : 0 < n) (hn : n ≤ 1000000) : ∃ r : Nat, wrap64 ((IntKind.u64.wrap x).tmod (n : Int)) = (r : Int) ∧ r < n := by
  have h0 : 0 ≤ IntKind.u64.wrap x := by simp [IntKind.wrap, IntKind.bits, IntKind.signed]; omega
  rw [Int.tmod_eq_emod_of_nonneg h0]
  have h1 : 0 ≤ IntKind.u64.wrap x % (n : Int) := Int.emod_nonneg _ (by omega)
  have h2 : IntKind.u64.wrap x % (n : Int) < n := Int.emod_lt_of_pos _ (by omega)
  refine ⟨(IntKind.u64.wrap x % (n : Int)).toNat, ?_, by omega⟩
  unfold wrap64
  omega

end Go.Proofs.Ytbndhaocohomjaa
