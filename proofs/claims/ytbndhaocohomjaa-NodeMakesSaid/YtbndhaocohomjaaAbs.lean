/- The priority of a key as a natural number: it can be gone back, and 'above' is a strict total order. No program in sight. -/
/- Arenas, nodes, lists of pairs: plain functions that tell what the program's functions answer. No program in sight. -/
/- Nodes: what the program's node package answers, as plain functions. -/
/- The reference's functions on lists of pairs, as plain functions. No program in sight. -/
import Derived.Laws.Bits64
import Derived.RowKit
namespace Go.Proofs.Ytbndhaocohomjaa.Mix
set_option maxRecDepth 100000

def stepN (X s C : Nat) : Nat := (X ^^^ X / s) * C % 18446744073709551616
def prioC (a : Int) : Nat :=
  let x0 := ((a % 18446744073709551616 + 11400714819323198485) % 18446744073709551616).toNat
  let x1 := stepN x0 1073741824 13787848793156543929
  let x2 := stepN x1 134217728 10723151780598845931
  x2 ^^^ x2 / 2147483648

theorem prio_is : ∃ f : Int → Nat, f = prioC := ⟨_, rfl⟩
/-- The priority, behind a name that nothing unfolds (the kernel, too, would count up its factors). -/
noncomputable def prioN : Int → Nat := prio_is.choose
theorem prioN_eq : prioN = prioC := prio_is.choose_spec

/-- One step back behind 'x ^ x>>s': the shift doubled each time. -/
theorem xs_inj (s : Nat) (h1 : 64 ≤ 3 * s) {x y : Nat} (hx : x < 2 ^ 64) (hy : y < 2 ^ 64) (h : x ^^^ x >>> s = y ^^^ y >>> s) : x = y := by
  have key : ∀ z : Nat, z < 2 ^ 64 → (z ^^^ z >>> s) ^^^ ((z ^^^ z >>> s) >>> s) ^^^ ((z ^^^ z >>> s) >>> (2 * s)) = z := by
    intro z hz
    have h3 : z >>> (3 * s) = 0 := by
      rw [Nat.shiftRight_eq_div_pow]
      exact Nat.div_eq_of_lt (Nat.lt_of_lt_of_le hz (Nat.pow_le_pow_right (by decide) h1))
    have e1 : (z ^^^ z >>> s) >>> s = z >>> s ^^^ z >>> (2 * s) := by
      rw [Nat.shiftRight_xor_distrib, ← Nat.shiftRight_add, show s + s = 2 * s by omega]
    have e2 : (z ^^^ z >>> s) >>> (2 * s) = z >>> (2 * s) := by
      rw [Nat.shiftRight_xor_distrib, ← Nat.shiftRight_add, show s + 2 * s = 3 * s by omega, h3, Nat.xor_zero]
    rw [e1, e2]
    generalize z >>> s = p
    generalize z >>> (2 * s) = q
    rw [Nat.xor_assoc, Nat.xor_assoc, Nat.xor_assoc, Nat.xor_self, Nat.xor_zero, Nat.xor_self, Nat.xor_zero]
  rw [← key x hx, ← key y hy, h]

theorem xor_div_inj {d x y : Nat} (s : Nat) (hd : d = 2 ^ s) (h1 : 64 ≤ 3 * s) (hx : x < 2 ^ 64) (hy : y < 2 ^ 64) (h : x ^^^ x / d = y ^^^ y / d) : x = y := by
  subst hd
  rw [← Nat.shiftRight_eq_div_pow, ← Nat.shiftRight_eq_div_pow] at h
  exact xs_inj s h1 hx hy h

theorem mul_inj (C D : Nat) (hD : C * D % 18446744073709551616 = 1) {x y : Nat} (hx : x < 18446744073709551616) (hy : y < 18446744073709551616)
    (h : x * C % 18446744073709551616 = y * C % 18446744073709551616) : x = y := by
  have go : ∀ z : Nat, z < 18446744073709551616 → (z * C % 18446744073709551616) * D % 18446744073709551616 = z := by
    intro z hz
    rw [Nat.mod_mul_mod, Nat.mul_assoc, Nat.mul_mod, hD, Nat.mul_one, Nat.mod_mod, Nat.mod_eq_of_lt hz]
  rw [← go x hx, ← go y hy, h]

theorem stepN_lt (X s C : Nat) : stepN X s C < 18446744073709551616 := Nat.mod_lt _ (by decide)

theorem xor_div_lt {x d : Nat} (hx : x < 18446744073709551616) : x ^^^ x / d < 18446744073709551616 :=
  Nat.xor_lt_two_pow (n := 64) hx (Nat.lt_of_le_of_lt (Nat.div_le_self _ _) hx)

theorem stepN_inj {d C : Nat} (s D : Nat) (hd : d = 2 ^ s) (h1 : 64 ≤ 3 * s) (hD : C * D % 18446744073709551616 = 1) {x y : Nat} (hx : x < 18446744073709551616) (hy : y < 18446744073709551616)
    (h : stepN x d C = stepN y d C) : x = y :=
  xor_div_inj s hd h1 hx hy (mul_inj C D hD (xor_div_lt hx) (xor_div_lt hy) h)

theorem prioN_inj {a b : Int} (ha : -9223372036854775808 ≤ a ∧ a ≤ 9223372036854775807) (hb : -9223372036854775808 ≤ b ∧ b ≤ 9223372036854775807) (h : prioN a = prioN b) : a = b := by
  rw [prioN_eq] at h
  have x0 : ∀ c : Int, ((c % 18446744073709551616 + 11400714819323198485) % 18446744073709551616).toNat < 18446744073709551616 := by intro c; omega
  have h3 := xor_div_inj 31 (by decide) (by decide) (stepN_lt _ _ _) (stepN_lt _ _ _) h
  have h2 := stepN_inj 27 3573116690164977347 (by decide) (by decide) (by decide) (stepN_lt _ _ _) (stepN_lt _ _ _) h3
  have h1 := stepN_inj 30 10871156337175269513 (by decide) (by decide) (by decide) (x0 a) (x0 b) h2
  omega

/-- Which key is above which. -/
noncomputable def above (a b : Int) : Bool := if prioN a = prioN b then decide (a < b) else decide (prioN b < prioN a)

theorem above_irrefl (a : Int) : above a a = false := by simp [above]
theorem above_asymm {a b : Int} (h : above a b = true) : above b a = false := by
  unfold above at *
  by_cases e : prioN a = prioN b
  · rw [if_pos e] at h; rw [if_pos e.symm]; simp at *; omega
  · rw [if_neg e] at h; rw [if_neg (fun x => e x.symm)]; simp at *; omega
theorem above_trans {a b c : Int} (h1 : above a b = true) (h2 : above b c = true) : above a c = true := by
  unfold above at *
  by_cases e : prioN a = prioN b <;> by_cases f : prioN b = prioN c <;> by_cases g : prioN a = prioN c <;> simp_all <;> omega
theorem above_total {a b : Int} (h : a ≠ b) : above a b = true ∨ above b a = true := by
  unfold above
  by_cases e : prioN a = prioN b
  · rw [if_pos e, if_pos e.symm]; simp; omega
  · rw [if_neg e, if_neg (fun x => e x.symm)]; simp; omega
theorem above_false {a b : Int} (h : above a b = false) : a = b ∨ above b a = true := by
  by_cases e : a = b
  · exact .inl e
  · rcases above_total e with h' | h'
    · rw [h] at h'; cases h'
    · exact .inr h'

/-- The comparison as the program writes it, and as the reference does, on any two numbers. -/
theorem above_core (p q : Nat) (a b : Int) : (if (p : Int) = (q : Int) then some (decide (a < b)) else some (decide ((p : Int) > (q : Int)))) = some (if p = q then decide (a < b) else decide (q < p)) := by
  by_cases e : p = q
  · rw [if_pos e, if_pos (by rw [e])]
  · rw [if_neg e, if_neg (by omega)]
    congr 1
    exact decide_eq_decide.2 (by omega)
theorem above_core1 (p q : Nat) (a b : Int) : (if (p : Int) > (q : Int) then some true else if (p : Int) = (q : Int) then some (decide (a < b)) else some false) = some (if p = q then decide (a < b) else decide (q < p)) := by
  by_cases e : p = q
  · rw [if_pos e, if_neg (by omega), if_pos (by rw [e])]
  · rw [if_neg e]
    by_cases g : q < p
    · rw [if_pos (by omega)]; simp [g]
    · rw [if_neg (by omega), if_neg (by omega)]; simp [g]

theorem above_of (f : Int → Option Int) (g : Int → Nat) (h : ∀ a, f a = some (g a : Int)) (a b : Int) :
    ((f a).bind fun p => ((f b).bind fun q => (if p = q then (some (decide (a < b))) else (some (decide (p > q)))))) = some (if g a = g b then decide (a < b) else decide (g b < g a)) := by
  rw [h, h]
  exact above_core _ _ _ _
theorem above_of1 (f : Int → Option Int) (g : Int → Nat) (h : ∀ a, f a = some (g a : Int)) (a b : Int) :
    ((f a).bind fun p => ((f b).bind fun q => (if p > q then (some true) else (if p = q then (some (decide (a < b))) else (some false))))) = some (if g a = g b then decide (a < b) else decide (g b < g a)) := by
  rw [h, h]
  exact above_core1 _ _ _ _
theorem above_mk (a b : Int) : above a b = if prioN a = prioN b then decide (a < b) else decide (prioN b < prioN a) := rfl

/-- The mixing as the model reckons it. -/
theorem prio_eq (a : Int) :
    bits .xor .u64 (IntKind.u64.wrap ((bits .xor .u64 (IntKind.u64.wrap ((bits .xor .u64 (IntKind.u64.wrap ((IntKind.u64.wrap a) + 11400714819323198485)) ((IntKind.u64.wrap ((IntKind.u64.wrap a) + 11400714819323198485)) / 1073741824)) * 13787848793156543929)) ((IntKind.u64.wrap ((bits .xor .u64 (IntKind.u64.wrap ((IntKind.u64.wrap a) + 11400714819323198485)) ((IntKind.u64.wrap ((IntKind.u64.wrap a) + 11400714819323198485)) / 1073741824)) * 13787848793156543929)) / 134217728)) * 10723151780598845931)) ((IntKind.u64.wrap ((bits .xor .u64 (IntKind.u64.wrap ((bits .xor .u64 (IntKind.u64.wrap ((IntKind.u64.wrap a) + 11400714819323198485)) ((IntKind.u64.wrap ((IntKind.u64.wrap a) + 11400714819323198485)) / 1073741824)) * 13787848793156543929)) ((IntKind.u64.wrap ((bits .xor .u64 (IntKind.u64.wrap ((IntKind.u64.wrap a) + 11400714819323198485)) ((IntKind.u64.wrap ((IntKind.u64.wrap a) + 11400714819323198485)) / 1073741824)) * 13787848793156543929)) / 134217728)) * 10723151780598845931)) / 2147483648) = (prioN a : Int) := by
  have w0 : IntKind.u64.wrap ((IntKind.u64.wrap a) + 11400714819323198485) = ((((a % 18446744073709551616 + 11400714819323198485) % 18446744073709551616).toNat : Nat) : Int) := by
    rw [IntKind.wrap_u64, IntKind.wrap_u64]; omega
  have hx : ((a % 18446744073709551616 + 11400714819323198485) % 18446744073709551616).toNat < 18446744073709551616 := by omega
  rw [prioN_eq]
  unfold prioC
  generalize ((a % 18446744073709551616 + 11400714819323198485) % 18446744073709551616).toNat = x at *
  rw [w0]
  have s1 : IntKind.u64.wrap (bits .xor .u64 (x : Int) ((x : Int) / 1073741824) * 13787848793156543929) = ((stepN x 1073741824 13787848793156543929 : Nat) : Int) := mixStep_u64 x 1073741824 13787848793156543929 hx
  rw [s1]
  generalize hy : stepN x 1073741824 13787848793156543929 = y
  have hy' : y < 18446744073709551616 := by rw [← hy]; exact stepN_lt _ _ _
  have s2 : IntKind.u64.wrap (bits .xor .u64 (y : Int) ((y : Int) / 134217728) * 10723151780598845931) = ((stepN y 134217728 10723151780598845931 : Nat) : Int) := mixStep_u64 y 134217728 10723151780598845931 hy'
  rw [s2]
  generalize hz : stepN y 134217728 10723151780598845931 = z
  have hz' : z < 18446744073709551616 := by rw [← hz]; exact stepN_lt _ _ _
  have s3 : bits .xor .u64 (z : Int) ((z : Int) / 2147483648) = ((z ^^^ z / 2147483648 : Nat) : Int) := xorShift_u64 z 2147483648 hz'
  rw [s3]
  subst hz; subst hy; rfl

end Go.Proofs.Ytbndhaocohomjaa.Mix

namespace Go.Proofs.Ytbndhaocohomjaa
set_option maxRecDepth 100000
open Go.RowKit (wrap64)

/-- A record (kind 1 and more) or a cell (kind 0). -/
structure Slot where
  kind : Int
  vals : List Int
/-- Records and cells, room for how many, steps made. -/
structure Ar where
  room : Int
  slots : List Slot
  steps : Int
/-- An arena, or none. -/
abbrev OA := Option Ar

/-- What holds of every arena. -/
structure Ar.Ok (a : Ar) : Prop where
  most : a.room ≤ 60000
  fits : (a.slots.length : Int) ≤ a.room
  cells : ∀ s ∈ a.slots, s.kind = 0 → ∃ v, s.vals = [v]

def slotAt (a : Ar) (id : Int) : Slot := a.slots.getD (id - 1).toNat ⟨0, []⟩
def hasB : OA → Int → Bool
  | none, _ => false
  | some a, id => decide (1 ≤ id ∧ id ≤ a.slots.length)
def kindO : OA → Int → Int
  | none, _ => 0
  | some a, id => if 1 ≤ id ∧ id ≤ a.slots.length then (slotAt a id).kind else 0
def valO : OA → Int → Int → Int
  | none, _, _ => 0
  | some a, id, i => if 1 ≤ id ∧ id ≤ a.slots.length ∧ (slotAt a id).kind ≠ 0 ∧ 0 ≤ i ∧ i < (slotAt a id).vals.length then (slotAt a id).vals.getD i.toNat 0 else 0
def usedO : OA → Int
  | none => 0
  | some a => a.slots.length
def roomO : OA → Int
  | none => 0
  | some a => a.room - a.slots.length
def stepsO : OA → Int
  | none => 0
  | some a => a.steps
def newA (room : Int) : Ar := ⟨min (max room 0) 60000, [], 0⟩
/-- One more record or cell: its number, 0 or why not, the arena behind it. -/
def addA (a : Ar) (s : Slot) : Int × Int × Ar :=
  if a.room - a.slots.length = 0 then (0, 2, a) else (a.slots.length + 1, 0, ⟨a.room, a.slots ++ [s], a.steps⟩)
def makeO : OA → Int → List Int → Int × Int × OA
  | none, _, _ => (0, 1, none)
  | some a, k, l => if k < 1 ∨ 12 < (l.length : Int) then (0, 1, some a) else ((addA a ⟨k, l⟩).1, (addA a ⟨k, l⟩).2.1, some (addA a ⟨k, l⟩).2.2)
def cellO : OA → Int → Int × Int × OA
  | none, _ => (0, 1, none)
  | some a, v => ((addA a ⟨0, [v]⟩).1, (addA a ⟨0, [v]⟩).2.1, some (addA a ⟨0, [v]⟩).2.2)
/-- Is there such a cell? -/
def isCell : OA → Int → Bool
  | none, _ => false
  | some a, id => decide (1 ≤ id ∧ id ≤ a.slots.length ∧ (slotAt a id).kind = 0)
def holds (a : Ar) (id : Int) : Int := (slotAt a id).vals.getD 0 0
def stepA (a : Ar) : Ar := ⟨a.room, a.slots, wrap64 (a.steps + 1)⟩
def putA (a : Ar) (id v : Int) : Ar := ⟨a.room, a.slots.set (id - 1).toNat ⟨0, [v]⟩, a.steps⟩

end Go.Proofs.Ytbndhaocohomjaa

namespace Go.Proofs.Ytbndhaocohomjaa
set_option maxRecDepth 100000
open Go.RowKit (wrap64)

structure Nd where
  key : Int
  val : Int
  left : Int
  right : Int
  size : Int
  high : Int
def isN (A : OA) (t : Int) : Bool := decide (kindO A t = 1)
def getN (A : OA) (t : Int) : Nd := if kindO A t = 1 then ⟨valO A t 0, valO A t 1, valO A t 2, valO A t 3, valO A t 4, valO A t 5⟩ else ⟨0, 0, 0, 0, 0, 0⟩
/-- What is told by a node made of a pair and two treaps. -/
def nodeVals (A : OA) (k v l r : Int) : List Int :=
  [k, v, l, r, wrap64 (wrap64 ((getN A l).size + (getN A r).size) + 1), wrap64 ((if (getN A l).high < (getN A r).high then (getN A r).high else (getN A l).high) + 1)]
def badArg (A : OA) (l r : Int) : Bool := A.isNone || (decide (l ≠ 0) && !isN A l) || (decide (r ≠ 0) && !isN A r)
def makeN (A : OA) (k v l r : Int) : Int × Int × OA := if badArg A l r = true then (0, 1, A) else makeO A 1 (nodeVals A k v l r)

end Go.Proofs.Ytbndhaocohomjaa

namespace Go.Proofs.Ytbndhaocohomjaa
set_option maxRecDepth 100000
open Go.Proofs.Ytbndhaocohomjaa.Mix

abbrev Pr := Int × Int
def okP (l : List Pr) : Prop := ∀ x ∈ l, (-9223372036854775808 ≤ x.1 ∧ x.1 ≤ 9223372036854775807) ∧ -9223372036854775808 ≤ x.2 ∧ x.2 ≤ 9223372036854775807
def keyAt (l : List Pr) (i : Nat) : Int := (l.getD i (0, 0)).1

/-- The place of the pair above all others among the first k (-1: none). -/
noncomputable def topB (l : List Pr) : Nat → Int
  | 0 => -1
  | k + 1 => if topB l k < 0 then (k : Int) else if above (keyAt l k) (keyAt l (topB l k).toNat) = true then (k : Int) else topB l k
noncomputable def top (l : List Pr) : Int := topB l l.length
theorem topB_bd (l : List Pr) : ∀ k, -1 ≤ topB l k ∧ topB l k < k ∧ (0 < k → 0 ≤ topB l k)
  | 0 => by simp [topB]
  | k + 1 => by
    have h := topB_bd l k
    simp only [topB]
    split
    · omega
    · split
      · omega
      · omega
theorem top_bd (l : List Pr) : -1 ≤ top l ∧ top l < l.length ∧ (0 < l.length → 0 ≤ top l) := topB_bd l l.length

/-- How high the treap of some pairs is; n: no fewer than there are. -/
noncomputable def hgtF : Nat → List Pr → Nat
  | 0, _ => 0
  | n + 1, l => if top l < 0 then 0 else 1 + max (hgtF n (l.take (top l).toNat)) (hgtF n (l.drop ((top l).toNat + 1)))
noncomputable def hgt (l : List Pr) : Nat := hgtF l.length l
theorem hgtF_more : ∀ (n m : Nat) (l : List Pr), l.length ≤ n → l.length ≤ m → hgtF n l = hgtF m l
  | 0, 0, _, _, _ => rfl
  | 0, m + 1, l, hn, _ => by
    have h : l = [] := List.eq_nil_of_length_eq_zero (by omega)
    subst h
    simp [hgtF, top, topB]
  | n + 1, 0, l, _, hm => by
    have h : l = [] := List.eq_nil_of_length_eq_zero (by omega)
    subst h
    simp [hgtF, top, topB]
  | n + 1, m + 1, l, hn, hm => by
    have hb := top_bd l
    simp only [hgtF]
    by_cases h : top l < 0
    · rw [if_pos h, if_pos h]
    · rw [if_neg h, if_neg h, hgtF_more n m _ (by rw [List.length_take]; omega) (by rw [List.length_take]; omega), hgtF_more n m _ (by rw [List.length_drop]; omega) (by rw [List.length_drop]; omega)]
theorem hgt_eq (l : List Pr) : hgt l = if top l < 0 then 0 else 1 + max (hgt (l.take (top l).toNat)) (hgt (l.drop ((top l).toNat + 1))) := by
  have hb := top_bd l
  rw [show hgt l = hgtF (l.length + 1) l from hgtF_more _ _ l (Nat.le_refl _) (by omega)]
  simp only [hgtF]
  by_cases h : top l < 0
  · rw [if_pos h, if_pos h]
  · rw [if_neg h, if_neg h]
    unfold hgt
    rw [hgtF_more l.length (l.take (top l).toNat).length _ (by rw [List.length_take]; omega) (Nat.le_refl _), hgtF_more l.length (l.drop ((top l).toNat + 1)).length _ (by rw [List.length_drop]; omega) (Nat.le_refl _)]
theorem hgtF_le : ∀ (n : Nat) (l : List Pr), hgtF n l ≤ l.length
  | 0, l => Nat.zero_le _
  | n + 1, l => by
    have hb := top_bd l
    simp only [hgtF]
    by_cases h : top l < 0
    · rw [if_pos h]; omega
    · rw [if_neg h]
      have h1 := hgtF_le n (l.take (top l).toNat)
      have h2 := hgtF_le n (l.drop ((top l).toNat + 1))
      rw [List.length_take] at h1
      rw [List.length_drop] at h2
      omega
theorem hgt_le (l : List Pr) : hgt l ≤ l.length := hgtF_le _ l

/-- A pair more, or another value: what is gathered, and is it done. -/
def stepW (p : Pr) (s : List Pr × Bool) (x : Pr) : List Pr × Bool :=
  if s.2 = false ∧ p.1 ≤ x.1 then (if x.1 = p.1 then (s.1 ++ [p], true) else (s.1 ++ [p] ++ [x], true))
  else if x.1 = p.1 then s else (s.1 ++ [x], s.2)
def withS (p : Pr) (l : List Pr) : List Pr × Bool := l.foldl (stepW p) ([], false)
def withP (l : List Pr) (p : Pr) : List Pr := if (withS p l).2 = true then (withS p l).1 else (withS p l).1 ++ [p]
theorem withS_snoc (p : Pr) (l : List Pr) (x : Pr) : withS p (l ++ [x]) = stepW p (withS p l) x := by simp [withS]
def owes : Bool → Nat | true => 0 | false => 1
theorem stepW_len (p : Pr) (s : List Pr × Bool) (x : Pr) : (stepW p s x).1.length + owes (stepW p s x).2 ≤ s.1.length + owes s.2 + 1 := by
  obtain ⟨o, d⟩ := s
  unfold stepW
  cases d <;> (repeat' split) <;> simp_all [owes]
theorem foldW_len (p : Pr) (l : List Pr) : ∀ s, (l.foldl (stepW p) s).1.length + owes (l.foldl (stepW p) s).2 ≤ s.1.length + owes s.2 + l.length := by
  induction l with
  | nil => intro s; exact Nat.le_refl _
  | cons x r ih =>
    intro s
    have h1 := ih (stepW p s x)
    have h2 := stepW_len p s x
    rw [List.foldl_cons, List.length_cons]
    omega
theorem withS_len (p : Pr) (l : List Pr) : (withS p l).1.length + owes (withS p l).2 ≤ l.length + 1 := by
  have h := foldW_len p l ([], false)
  have e : (([], false) : List Pr × Bool).1.length + owes (([], false) : List Pr × Bool).2 = 1 := rfl
  unfold withS
  rw [e] at h
  omega
theorem withP_len (l : List Pr) (p : Pr) : (withP l p).length ≤ l.length + 1 := by
  have h := withS_len p l
  unfold withP
  split
  · omega
  · rename_i hd
    have hd' : (withS p l).2 = false := by simpa using hd
    rw [hd'] at h
    have e : owes false = 1 := rfl
    rw [List.length_append, List.length_singleton]
    omega

/-- Some that may be, of raw ones, at most so many. -/
def pairsB (raw : List Pr) (most : Int) : Nat → List Pr
  | 0 => []
  | k + 1 => if (k : Int) < most then withP (pairsB raw most k) (raw.getD k (0, 0)) else pairsB raw most k
def pairs (raw : List Pr) (most : Int) : List Pr := pairsB raw most raw.length
theorem pairsB_len (raw : List Pr) (most : Int) (hm : 0 ≤ most) : ∀ k, ((pairsB raw most k).length : Int) ≤ most ∧ (pairsB raw most k).length ≤ k
  | 0 => by simp [pairsB, hm]
  | k + 1 => by
    have h := pairsB_len raw most hm k
    simp only [pairsB]
    split
    · have := withP_len (pairsB raw most k) (raw.getD k (0, 0))
      omega
    · omega

end Go.Proofs.Ytbndhaocohomjaa

