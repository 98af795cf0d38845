/- Short words of this claim: an array of Bools by its number, three lemmas on lists by short names. -/
/- The priority of a key as a natural number: it can be gone back, and 'above' is a strict total order. No program in sight. -/
/- Arenas, nodes, lists of pairs: plain functions that tell what the program's functions answer. No program in sight. -/
/- Nodes: what the program's node package answers, as plain functions. -/
/- The reference's functions on lists of pairs, as plain functions. No program in sight. -/
/- How an arena lies in memory, and what stays as it is. -/
/- What is read of an arena. -/
/- What a store, an append does to an arena as it lies in memory. -/
import Derived.KernelRfl
import Derived.Laws.Bits64
import Derived.RowKit
import Derived.Test.YtghjnkfocjjlnaaGreatProg
import Derived.WalkKit
import Derived.WalkSpells
import Derived.WalkLawsBesides
import Derived.Lib.Hide
import Derived.Deep.QuietTactic
import Derived.BigQuiet
set_option linter.unusedSimpArgs false
set_option linter.unusedVariables false
namespace Go.Proofs.YtghjnkfocjjlnaaGreat
def bz : Nat → Nat → List Bool
  | 0, _ => []
  | n + 1, k => (k % 2 == 1) :: bz n (k / 2)
theorem sqA {α : Type} (l : List α) (i : Nat) (a : α) : l.toArray.setIfInBounds i a = (l.set i a).toArray := List.setIfInBounds_toArray l i a
theorem sqZ {α : Type} {x : α} {xs : List α} {a : α} : (x :: xs).set 0 a = a :: xs := rfl
theorem sqS {α : Type} {x : α} {xs : List α} {i : Nat} {a : α} : (x :: xs).set (i + 1) a = x :: xs.set i a := rfl
end Go.Proofs.YtghjnkfocjjlnaaGreat
section
namespace Go.Proofs.YtghjnkfocjjlnaaGreat.Mix
set_option maxRecDepth 100000
def stepN (X s C : Nat) : Nat := (X ^^^ X / s) * C % 18446744073709551616
def prioC (a : Int) : Nat :=
  let x0 := ((a % 18446744073709551616 + 11400714819323198485) % 18446744073709551616).toNat
  let x1 := stepN x0 1073741824 13787848793156543929
  let x2 := stepN x1 134217728 10723151780598845931
  x2 ^^^ x2 / 2147483648
theorem prio_is : ∃ f : Int → Nat, f = prioC := ⟨_, rfl⟩
/-- The priority, behind a name that nothing unfolds (the kernel, too, would count up its factors). -/
noncomputable def prioN : Int → Nat := prio_is.choose
theorem prioN_eq : prioN = prioC := prio_is.choose_spec
theorem stepN_lt (X s C : Nat) : stepN X s C < 18446744073709551616 := Nat.mod_lt _ (by decide)
/-- Which key is above which. -/
noncomputable def above (a b : Int) : Bool := if prioN a = prioN b then decide (a < b) else decide (prioN b < prioN a)
theorem above_irrefl (a : Int) : above a a = false := by simp [above]
theorem above_trans {a b c : Int} (h1 : above a b = true) (h2 : above b c = true) : above a c = true := by
  unfold above at *
  by_cases e : prioN a = prioN b <;> by_cases f : prioN b = prioN c <;> by_cases g : prioN a = prioN c <;> simp_all <;> omega
theorem above_total {a b : Int} (h : a ≠ b) : above a b = true ∨ above b a = true := by
  unfold above
  by_cases e : prioN a = prioN b
  · rw [if_pos e, if_pos e.symm]; simp; omega
  · rw [if_neg e, if_neg (fun x => e x.symm)]; simp; omega
theorem above_mk (a b : Int) : above a b = if prioN a = prioN b then decide (a < b) else decide (prioN b < prioN a) := rfl
/-- The mixing as the model reckons it. -/
theorem prio_eq (a : Int) :
    bits .xor .u64 (IntKind.u64.wrap ((bits .xor .u64 (IntKind.u64.wrap ((bits .xor .u64 (IntKind.u64.wrap ((IntKind.u64.wrap a) + 11400714819323198485)) ((IntKind.u64.wrap ((IntKind.u64.wrap a) + 11400714819323198485)) / 1073741824)) * 13787848793156543929)) ((IntKind.u64.wrap ((bits .xor .u64 (IntKind.u64.wrap ((IntKind.u64.wrap a) + 11400714819323198485)) ((IntKind.u64.wrap ((IntKind.u64.wrap a) + 11400714819323198485)) / 1073741824)) * 13787848793156543929)) / 134217728)) * 10723151780598845931)) ((IntKind.u64.wrap ((bits .xor .u64 (IntKind.u64.wrap ((bits .xor .u64 (IntKind.u64.wrap ((IntKind.u64.wrap a) + 11400714819323198485)) ((IntKind.u64.wrap ((IntKind.u64.wrap a) + 11400714819323198485)) / 1073741824)) * 13787848793156543929)) ((IntKind.u64.wrap ((bits .xor .u64 (IntKind.u64.wrap ((IntKind.u64.wrap a) + 11400714819323198485)) ((IntKind.u64.wrap ((IntKind.u64.wrap a) + 11400714819323198485)) / 1073741824)) * 13787848793156543929)) / 134217728)) * 10723151780598845931)) / 2147483648) = (prioN a : Int) := by
  have w0 : IntKind.u64.wrap ((IntKind.u64.wrap a) + 11400714819323198485) = ((((a % 18446744073709551616 + 11400714819323198485) % 18446744073709551616).toNat : Nat) : Int) := by
    rw [IntKind.wrap_u64, IntKind.wrap_u64]; omega
  have hx : ((a % 18446744073709551616 + 11400714819323198485) % 18446744073709551616).toNat < 18446744073709551616 := by omega
  rw [prioN_eq]
  unfold prioC
  generalize ((a % 18446744073709551616 + 11400714819323198485) % 18446744073709551616).toNat = x at *
  rw [w0]
  have s1 : IntKind.u64.wrap (bits .xor .u64 (x : Int) ((x : Int) / 1073741824) * 13787848793156543929) = ((stepN x 1073741824 13787848793156543929 : Nat) : Int) := mixStep_u64 x 1073741824 13787848793156543929 hx
  rw [s1]
  generalize hy : stepN x 1073741824 13787848793156543929 = y
  have hy' : y < 18446744073709551616 := by rw [← hy]; exact stepN_lt _ _ _
  have s2 : IntKind.u64.wrap (bits .xor .u64 (y : Int) ((y : Int) / 134217728) * 10723151780598845931) = ((stepN y 134217728 10723151780598845931 : Nat) : Int) := mixStep_u64 y 134217728 10723151780598845931 hy'
  rw [s2]
  generalize hz : stepN y 134217728 10723151780598845931 = z
  have hz' : z < 18446744073709551616 := by rw [← hz]; exact stepN_lt _ _ _
  have s3 : bits .xor .u64 (z : Int) ((z : Int) / 2147483648) = ((z ^^^ z / 2147483648 : Nat) : Int) := xorShift_u64 z 2147483648 hz'
  rw [s3]
  subst hz; subst hy; rfl
end Go.Proofs.YtghjnkfocjjlnaaGreat.Mix
namespace Go.Proofs.YtghjnkfocjjlnaaGreat
set_option maxRecDepth 100000
open Go.RowKit (wrap64)
/-- A record (kind 1 and more) or a cell (kind 0). -/
structure Slot where
  kind : Int
  vals : List Int
/-- Records and cells, room for how many, steps made. -/
structure Ar where
  room : Int
  slots : List Slot
  steps : Int
/-- An arena, or none. -/
abbrev OA := Option Ar
/-- What holds of every arena. -/
structure Ar.Ok (a : Ar) : Prop where
  most : a.room ≤ 60000
  fits : (a.slots.length : Int) ≤ a.room
  cells : ∀ s ∈ a.slots, s.kind = 0 → ∃ v, s.vals = [v]
def slotAt (a : Ar) (id : Int) : Slot := a.slots.getD (id - 1).toNat ⟨0, []⟩
def hasB : OA → Int → Bool
  | none, _ => false
  | some a, id => decide (1 ≤ id ∧ id ≤ a.slots.length)
def kindO : OA → Int → Int
  | none, _ => 0
  | some a, id => if 1 ≤ id ∧ id ≤ a.slots.length then (slotAt a id).kind else 0
def valO : OA → Int → Int → Int
  | none, _, _ => 0
  | some a, id, i => if 1 ≤ id ∧ id ≤ a.slots.length ∧ (slotAt a id).kind ≠ 0 ∧ 0 ≤ i ∧ i < (slotAt a id).vals.length then (slotAt a id).vals.getD i.toNat 0 else 0
def usedO : OA → Int
  | none => 0
  | some a => a.slots.length
def roomO : OA → Int
  | none => 0
  | some a => a.room - a.slots.length
def newA (room : Int) : Ar := ⟨min (max room 0) 60000, [], 0⟩
/-- One more record or cell: its number, 0 or why not, the arena behind it. -/
def addA (a : Ar) (s : Slot) : Int × Int × Ar :=
  if a.room - a.slots.length = 0 then (0, 2, a) else (a.slots.length + 1, 0, ⟨a.room, a.slots ++ [s], a.steps⟩)
def makeO : OA → Int → List Int → Int × Int × OA
  | none, _, _ => (0, 1, none)
  | some a, k, l => if k < 1 ∨ 12 < (l.length : Int) then (0, 1, some a) else ((addA a ⟨k, l⟩).1, (addA a ⟨k, l⟩).2.1, some (addA a ⟨k, l⟩).2.2)
def cellO : OA → Int → Int × Int × OA
  | none, _ => (0, 1, none)
  | some a, v => ((addA a ⟨0, [v]⟩).1, (addA a ⟨0, [v]⟩).2.1, some (addA a ⟨0, [v]⟩).2.2)
/-- Is there such a cell? -/
def isCell : OA → Int → Bool
  | none, _ => false
  | some a, id => decide (1 ≤ id ∧ id ≤ a.slots.length ∧ (slotAt a id).kind = 0)
def holds (a : Ar) (id : Int) : Int := (slotAt a id).vals.getD 0 0
def stepA (a : Ar) : Ar := ⟨a.room, a.slots, wrap64 (a.steps + 1)⟩
def putA (a : Ar) (id v : Int) : Ar := ⟨a.room, a.slots.set (id - 1).toNat ⟨0, [v]⟩, a.steps⟩
end Go.Proofs.YtghjnkfocjjlnaaGreat
namespace Go.Proofs.YtghjnkfocjjlnaaGreat
set_option maxRecDepth 100000
open Go.RowKit (wrap64)
structure Nd where
  key : Int
  val : Int
  left : Int
  right : Int
  size : Int
  high : Int
def isN (A : OA) (t : Int) : Bool := decide (kindO A t = 1)
def getN (A : OA) (t : Int) : Nd := if kindO A t = 1 then ⟨valO A t 0, valO A t 1, valO A t 2, valO A t 3, valO A t 4, valO A t 5⟩ else ⟨0, 0, 0, 0, 0, 0⟩
/-- What is told by a node made of a pair and two treaps. -/
def nodeVals (A : OA) (k v l r : Int) : List Int :=
  [k, v, l, r, wrap64 (wrap64 ((getN A l).size + (getN A r).size) + 1), wrap64 ((if (getN A l).high < (getN A r).high then (getN A r).high else (getN A l).high) + 1)]
def badArg (A : OA) (l r : Int) : Bool := A.isNone || (decide (l ≠ 0) && !isN A l) || (decide (r ≠ 0) && !isN A r)
def makeN (A : OA) (k v l r : Int) : Int × Int × OA := if badArg A l r = true then (0, 1, A) else makeO A 1 (nodeVals A k v l r)
end Go.Proofs.YtghjnkfocjjlnaaGreat
namespace Go.Proofs.YtghjnkfocjjlnaaGreat
set_option maxRecDepth 100000
open Go.Proofs.YtghjnkfocjjlnaaGreat.Mix
abbrev Pr := Int × Int
def keyAt (l : List Pr) (i : Nat) : Int := (l.getD i (0, 0)).1
/-- The place of the pair above all others among the first k (-1: none). -/
noncomputable def topB (l : List Pr) : Nat → Int
  | 0 => -1
  | k + 1 => if topB l k < 0 then (k : Int) else if above (keyAt l k) (keyAt l (topB l k).toNat) = true then (k : Int) else topB l k
noncomputable def top (l : List Pr) : Int := topB l l.length
theorem topB_bd (l : List Pr) : ∀ k, -1 ≤ topB l k ∧ topB l k < k ∧ (0 < k → 0 ≤ topB l k)
  | 0 => by simp [topB]
  | k + 1 => by
    have h := topB_bd l k
    simp only [topB]
    split
    · omega
    · split
      · omega
      · omega
theorem top_bd (l : List Pr) : -1 ≤ top l ∧ top l < l.length ∧ (0 < l.length → 0 ≤ top l) := topB_bd l l.length
/-- How high the treap of some pairs is; n: no fewer than there are. -/
noncomputable def hgtF : Nat → List Pr → Nat
  | 0, _ => 0
  | n + 1, l => if top l < 0 then 0 else 1 + max (hgtF n (l.take (top l).toNat)) (hgtF n (l.drop ((top l).toNat + 1)))
noncomputable def hgt (l : List Pr) : Nat := hgtF l.length l
theorem hgtF_more : ∀ (n m : Nat) (l : List Pr), l.length ≤ n → l.length ≤ m → hgtF n l = hgtF m l
  | 0, 0, _, _, _ => rfl
  | 0, m + 1, l, hn, _ => by
    have h : l = [] := List.eq_nil_of_length_eq_zero (by omega)
    subst h
    simp [hgtF, top, topB]
  | n + 1, 0, l, _, hm => by
    have h : l = [] := List.eq_nil_of_length_eq_zero (by omega)
    subst h
    simp [hgtF, top, topB]
  | n + 1, m + 1, l, hn, hm => by
    have hb := top_bd l
    simp only [hgtF]
    by_cases h : top l < 0
    · rw [if_pos h, if_pos h]
    · rw [if_neg h, if_neg h, hgtF_more n m _ (by rw [List.length_take]; omega) (by rw [List.length_take]; omega), hgtF_more n m _ (by rw [List.length_drop]; omega) (by rw [List.length_drop]; omega)]
theorem hgt_eq (l : List Pr) : hgt l = if top l < 0 then 0 else 1 + max (hgt (l.take (top l).toNat)) (hgt (l.drop ((top l).toNat + 1))) := by
  have hb := top_bd l
  rw [show hgt l = hgtF (l.length + 1) l from hgtF_more _ _ l (Nat.le_refl _) (by omega)]
  simp only [hgtF]
  by_cases h : top l < 0
  · rw [if_pos h, if_pos h]
  · rw [if_neg h, if_neg h]
    unfold hgt
    rw [hgtF_more l.length (l.take (top l).toNat).length _ (by rw [List.length_take]; omega) (Nat.le_refl _), hgtF_more l.length (l.drop ((top l).toNat + 1)).length _ (by rw [List.length_drop]; omega) (Nat.le_refl _)]
theorem hgtF_le : ∀ (n : Nat) (l : List Pr), hgtF n l ≤ l.length
  | 0, l => Nat.zero_le _
  | n + 1, l => by
    have hb := top_bd l
    simp only [hgtF]
    by_cases h : top l < 0
    · rw [if_pos h]; omega
    · rw [if_neg h]
      have h1 := hgtF_le n (l.take (top l).toNat)
      have h2 := hgtF_le n (l.drop ((top l).toNat + 1))
      rw [List.length_take] at h1
      rw [List.length_drop] at h2
      omega
theorem hgt_le (l : List Pr) : hgt l ≤ l.length := hgtF_le _ l
/-- A pair more, or another value: what is gathered, and is it done. -/
def stepW (p : Pr) (s : List Pr × Bool) (x : Pr) : List Pr × Bool :=
  if s.2 = false ∧ p.1 ≤ x.1 then (if x.1 = p.1 then (s.1 ++ [p], true) else (s.1 ++ [p] ++ [x], true))
  else if x.1 = p.1 then s else (s.1 ++ [x], s.2)
def withS (p : Pr) (l : List Pr) : List Pr × Bool := l.foldl (stepW p) ([], false)
def withP (l : List Pr) (p : Pr) : List Pr := if (withS p l).2 = true then (withS p l).1 else (withS p l).1 ++ [p]
/-- Some that may be, of raw ones, at most so many. -/
def pairsB (raw : List Pr) (most : Int) : Nat → List Pr
  | 0 => []
  | k + 1 => if (k : Int) < most then withP (pairsB raw most k) (raw.getD k (0, 0)) else pairsB raw most k
def pairs (raw : List Pr) (most : Int) : List Pr := pairsB raw most raw.length
end Go.Proofs.YtghjnkfocjjlnaaGreat
end
section
namespace Go.Proofs.YtghjnkfocjjlnaaGreat
set_option maxRecDepth 100000
open Go.RowKit
/-- The arena a lies at block p; F: blocks that are its own. -/
structure ArAt (w : World) (p : Nat) (a : Ar) (F : Nat → Prop) (sv : Value) (row : List Value) : Prop where
  ok : a.Ok
  blk : w.heap[p]? = some (.cells #[.int .i64 a.room, sv, .int .i64 a.steps] 128 (0, 0))
  own : w.ownsRow 0 159 2 sv a.slots.length row
  kind : ∀ i s, a.slots[i]? = some s → row[2 * i]? = some (.int .i64 s.kind)
  vals : ∀ i s, a.slots[i]? = some s → ∃ v, row[2 * i + 1]? = some v ∧ w.ownsRow 0 3 1 v s.vals.length (s.vals.map (Value.int .i64)) ∧ ∀ b, v.ownBlock = some b → F b
  apart : ∀ i j v u b, row[2 * i + 1]? = some v → row[2 * j + 1]? = some u → v.ownBlock = some b → u.ownBlock = some b → i = j
  footp : F p
  foots : ∀ b, sv.ownBlock = some b → F b
  lt : ∀ b, F b → b < w.heap.size
def OAt (w : World) (po : Option Addr) (A : OA) (F : Nat → Prop) : Prop :=
  (A = none ∧ po = none ∧ ∀ b, F b → b < w.heap.size) ∨ ∃ a p sv row, A = some a ∧ po = some ⟨p, 0, none⟩ ∧ ArAt w p a F sv row
/-- Nothing has turned but what F names; what is new is new. -/
structure Frame (F : Nat → Prop) (w w' : World) : Prop where
  os : w'.os = w.os
  tape : w'.tape = w.tape
  output : w'.output = w.output
  size : w.heap.size ≤ w'.heap.size
  block : ∀ k, k < w.heap.size → ¬ F k → w'.heap[k]? = w.heap[k]?
theorem Frame.of_below {F : Nat → Prop} {w w' : World} (h : Below w.heap.size w w') : Frame F w w' := ⟨h.os, h.tape, h.output, h.size, fun k hk _ => h.block k hk⟩
theorem Frame.refl (F : Nat → Prop) (w : World) : Frame F w w := .of_below (Below.refl _ _)
theorem Frame.trans {F F' : Nat → Prop} {a b c : World} (h : Frame F a b) (k : Frame F' b c) (hF : ∀ x, x < a.heap.size → F' x → F x) : Frame F a c :=
  ⟨k.os.trans h.os, k.tape.trans h.tape, k.output.trans h.output, Nat.le_trans h.size k.size, fun i hi hn => (k.block i (Nat.lt_of_lt_of_le hi h.size) (fun hf => hn (hF i hi hf))).trans (h.block i hi hn)⟩
theorem Frame.below {F : Nat → Prop} {B : Nat} {w w' : World} (h : Frame F w w') (hF : ∀ x, F x → B ≤ x) (hB : B ≤ w.heap.size) : Below B w w' :=
  ⟨h.os, h.tape, h.output, h.size, fun k hk => h.block k (by omega) (fun hf => by have := hF k hf; omega)⟩
theorem ownsRow_same {w w' : World} {base : Nat} {e : TypeId} {size : Nat} {v : Value} {n : Nat} {xs : List Value} (h : w.ownsRow base e size v n xs)
    (hs : ∀ b, v.ownBlock = some b → w'.heap[b]? = w.heap[b]?) : w'.ownsRow base e size v n xs := by
  refine ⟨h.1, ?_⟩
  rcases h.2 with hn | ⟨g, cap, cur, rfl, hb, hg, rest⟩
  · exact .inl hn
  · exact .inr ⟨g, cap, cur, rfl, hb, (hs g rfl).trans hg, rest⟩
/-- The same blocks, the same arena. -/
theorem ArAt.same {w w' : World} {p : Nat} {a : Ar} {F : Nat → Prop} {sv : Value} {row : List Value} (h : ArAt w p a F sv row) (hs : ∀ b, F b → w'.heap[b]? = w.heap[b]?) (hsz : w.heap.size ≤ w'.heap.size) : ArAt w' p a F sv row where
  ok := h.ok
  blk := (hs p h.footp).trans h.blk
  own := ownsRow_same h.own (fun b hb => hs b (h.foots b hb))
  kind := h.kind
  vals := fun i s hi => by
    obtain ⟨v, h1, h2, h3⟩ := h.vals i s hi
    exact ⟨v, h1, ownsRow_same h2 (fun b hb => hs b (h3 b hb)), h3⟩
  apart := h.apart
  footp := h.footp
  foots := h.foots
  lt := fun b hb => Nat.lt_of_lt_of_le (h.lt b hb) hsz
theorem OAt.lt {w : World} {po : Option Addr} {A : OA} {F : Nat → Prop} (h : OAt w po A F) : ∀ b, F b → b < w.heap.size := by
  rcases h with ⟨_, _, h⟩ | ⟨a, p, sv, row, _, _, h⟩
  · exact h
  · exact h.lt
theorem OAt.same {w w' : World} {po : Option Addr} {A : OA} {F : Nat → Prop} (h : OAt w po A F) (hs : ∀ b, F b → w'.heap[b]? = w.heap[b]?) (hsz : w.heap.size ≤ w'.heap.size) : OAt w' po A F := by
  rcases h with ⟨h1, h2, h3⟩ | ⟨a, p, sv, row, h1, h2, h⟩
  · exact .inl ⟨h1, h2, fun b hb => Nat.lt_of_lt_of_le (h3 b hb) hsz⟩
  · exact .inr ⟨a, p, sv, row, h1, h2, h.same hs hsz⟩
theorem OAt.below {w w' : World} {po : Option Addr} {A : OA} {F : Nat → Prop} (h : OAt w po A F) (hb : Below w.heap.size w w') : OAt w' po A F :=
  h.same (fun b hf => hb.block b (h.lt b hf)) hb.size
theorem OAt.alloc {w : World} {po : Option Addr} {A : OA} {F : Nat → Prop} (h : OAt w po A F) (o : Obj) : OAt (w.alloc o) po A F :=
  h.below ((Below.refl _ _).alloc (Nat.le_refl _) _)
/-- What the walk reads of a slot. -/
theorem ArAt.cells {w : World} {p : Nat} {a : Ar} {F : Nat → Prop} {sv : Value} {row : List Value} (h : ArAt w p a F sv row) :
    w.cell? ⟨p, 0, none⟩ = some (.int .i64 a.room) ∧ w.cell? ⟨p, 1, none⟩ = some sv ∧ w.cell? ⟨p, 2, none⟩ = some (.int .i64 a.steps) := by
  refine ⟨?_, ?_, ?_⟩ <;> simp [World.cell?, h.blk]
theorem ArAt.free {w : World} {p : Nat} {a : Ar} {F : Nat → Prop} {sv : Value} {row : List Value} (h : ArAt w p a F sv row) (i : Nat) : w.frozen? ⟨p, i, none⟩ = false := by
  simp [World.frozen?, h.blk]
/-- The slots' own slice. -/
theorem ArAt.slice {w : World} {p : Nat} {a : Ar} {F : Nat → Prop} {sv : Value} {row : List Value} (h : ArAt w p a F sv row) : ∃ ad cap, sv = .slice ad a.slots.length cap ∧ a.slots.length ≤ cap := by
  rcases h.own.2 with ⟨rfl, h2⟩ | ⟨g, cap, cur, rfl, _, _, hc, _⟩
  · exact ⟨none, 0, by rw [h2], by omega⟩
  · exact ⟨_, _, rfl, hc⟩
theorem ArAt.at_ {w : World} {p : Nat} {a : Ar} {F : Nat → Prop} {sv : Value} {row : List Value} (h : ArAt w p a F sv row) {i : Nat} (hi : i < a.slots.length) :
    ∃ g cap v, sv = .slice (some ⟨g, 0, none⟩) a.slots.length cap ∧ a.slots.length ≤ cap ∧ F g ∧ w.cell? ⟨g, i * 2, none⟩ = some (.int .i64 (a.slots[i]).kind) ∧ w.cell? ⟨g, i * 2 + 1, none⟩ = some v ∧ row[2 * i + 1]? = some v ∧
      w.ownsRow 0 3 1 v (a.slots[i]).vals.length ((a.slots[i]).vals.map (Value.int .i64)) ∧ ∀ b, v.ownBlock = some b → F b := by
  have hs : a.slots[i]? = some a.slots[i] := List.getElem?_eq_getElem hi
  obtain ⟨v, h1, h2, h3⟩ := h.vals i _ hs
  have h4 := h.kind i _ hs
  obtain ⟨ad, cap, rfl, hcap⟩ := h.slice
  rcases h.own.2 with ⟨hx, hz⟩ | ⟨g, cap', cur, hx, _, _, hc, _⟩
  · omega
  · simp only [Value.slice.injEq] at hx
    obtain ⟨rfl, _, rfl⟩ := hx
    refine ⟨g, cap, v, rfl, hcap, h.foots g rfl, ?_, ?_, h1, h2, h3⟩
    · rw [h.own.cellAt (i * 2) (by omega), Nat.mul_comm i 2]; exact h4
    · rw [h.own.cellAt (i * 2 + 1) (by omega), Nat.mul_comm i 2]; exact h1
end Go.Proofs.YtghjnkfocjjlnaaGreat
end
section
namespace Go.Proofs.YtghjnkfocjjlnaaGreat
set_option maxRecDepth 100000
open Go.RowKit
theorem kind_at {a : Ar} {n : Nat} (hn : n < a.slots.length) : kindO (some a) ((n : Int) + 1) = (a.slots[n]).kind := by
  simp only [kindO]
  rw [if_pos (by omega)]
  unfold slotAt
  rw [show ((n : Int) + 1 - 1).toNat = n by omega, List.getD_eq_getElem?_getD, List.getElem?_eq_getElem hn, Option.getD_some]
theorem val_at {a : Ar} {n i : Nat} (hn : n < a.slots.length) (hk : (a.slots[n]).kind ≠ 0) (hi : i < (a.slots[n]).vals.length) : valO (some a) ((n : Int) + 1) (i : Int) = (a.slots[n]).vals[i] := by
  have hs : slotAt a ((n : Int) + 1) = a.slots[n] := by
    unfold slotAt
    rw [show ((n : Int) + 1 - 1).toNat = n by omega, List.getD_eq_getElem?_getD, List.getElem?_eq_getElem hn, Option.getD_some]
  simp only [valO]
  rw [hs, if_pos ⟨by omega, by omega, hk, by omega, by omega⟩, Int.toNat_natCast, List.getD_eq_getElem?_getD, List.getElem?_eq_getElem hi, Option.getD_some]
theorem val_out {a : Ar} {n : Nat} {i : Int} (hn : n < a.slots.length) (h : (a.slots[n]).kind = 0 ∨ i < 0 ∨ ((a.slots[n]).vals.length : Int) ≤ i) : valO (some a) ((n : Int) + 1) i = 0 := by
  have hs : slotAt a ((n : Int) + 1) = a.slots[n] := by
    unfold slotAt
    rw [show ((n : Int) + 1 - 1).toNat = n by omega, List.getD_eq_getElem?_getD, List.getElem?_eq_getElem hn, Option.getD_some]
  simp only [valO]
  rw [hs, if_neg]
  rintro ⟨_, _, h1, h2, h3⟩
  rcases h with h | h | h
  · exact h1 h
  · omega
  · omega
theorem val_none {A : OA} {id i : Int} (h : kindO A id = 0) : valO A id i = 0 := by
  cases A with
  | none => rfl
  | some a =>
    simp only [valO]
    rw [if_neg]
    rintro ⟨h1, h2, h3, _⟩
    simp only [kindO] at h
    rw [if_pos ⟨h1, h2⟩] at h
    exact h3 h
theorem kind_split {A : OA} {id : Int} (h : kindO A id ≠ 0) : ∃ (a : Ar) (n : Nat), A = some a ∧ id = (n : Int) + 1 ∧ ∃ hn : n < a.slots.length, (a.slots[n]'hn).kind ≠ 0 := by
  cases A with
  | none => exact absurd rfl h
  | some a =>
    by_cases hb : 1 ≤ id ∧ id ≤ a.slots.length
    · obtain ⟨n, rfl⟩ : ∃ n : Nat, id = (n : Int) + 1 := ⟨(id - 1).toNat, by omega⟩
      refine ⟨a, n, rfl, rfl, by omega, ?_⟩
      rw [← kind_at]; exact h
    · exact absurd (by simp only [kindO]; rw [if_neg hb]) h
/-- The numbers' own slice. -/
theorem vals_form {w : World} {v : Value} {l : List Int} (h : w.ownsRow 0 3 1 v l.length (l.map (Value.int .i64))) :
    ∃ ad cap, v = .slice ad l.length cap ∧ l.length ≤ cap ∧ ∀ j (hj : j < l.length), ∃ b, ad = some ⟨b, 0, none⟩ ∧ w.cell? ⟨b, j, none⟩ = some (.int .i64 l[j]) := by
  rcases h.2 with ⟨rfl, h2⟩ | ⟨g, cap, cur, rfl, _, hg, hc, _⟩
  · exact ⟨none, 0, by rw [h2], by omega, fun j hj => by omega⟩
  · refine ⟨_, cap, rfl, hc, fun j hj => ⟨g, rfl, ?_⟩⟩
    rw [h.cellAt j (by omega), List.getElem?_map, List.getElem?_eq_getElem hj]; rfl
set_option maxHeartbeats 400000 in
theorem has_any {w : World} {po : Option Addr} {A : OA} {F : Nat → Prop} (h : OAt w po A F) (id : Int) :
    Calls Tryz.prog 104 #[.pointer po, .int .i64 id] w fun e w' => e = .returned (.bool (hasB A id)) ∧ w = w' := by
  rcases h with ⟨rfl, rfl, _⟩ | ⟨a, p, sv, row, rfl, rfl, h⟩
  · go_enter Tryz.func104, Tryz.ntmps104
    go_wp2
    go_ret
    exact ⟨rfl, rfl⟩
  · obtain ⟨c0, c1, c2⟩ := h.cells
    obtain ⟨ad, cap, rfl, hcap⟩ := h.slice
    have := h.ok.fits
    have := h.ok.most
    by_cases h1 : 1 ≤ id
    · go_enter Tryz.func104, Tryz.ntmps104
      go_wp2
      go_ret
      exact ⟨by simp [hasB, h1], rfl⟩
    · go_enter Tryz.func104, Tryz.ntmps104
      go_wp2
      go_ret
      exact ⟨by simp only [hasB]; rw [decide_eq_false (by omega)]; rfl, rfl⟩
set_option maxHeartbeats 400000 in
theorem kind_any {w : World} {po : Option Addr} {A : OA} {F : Nat → Prop} (h : OAt w po A F) (id : Int) :
    Calls Tryz.prog 59 #[.pointer po, .int .i64 id] w fun e w' => e = .returned (.int .i64 (kindO A id)) ∧ w = w' := by
  have hh := has_any h id
  cases hb : hasB A id with
  | false =>
    rw [hb] at hh
    have hk : kindO A id = 0 := by
      rcases h with ⟨rfl, rfl, _⟩ | ⟨a, p, sv, row, rfl, rfl, h⟩
      · rfl
      · simp only [hasB, decide_eq_false_iff_not] at hb
        simp only [kindO]
        rw [if_neg hb]
    have HK := Lib.hid hk; clear hk hb
    go_enter Tryz.func59, Tryz.ntmps59
    go_wp2_with (go_at_call 104; refine hh.mono ?_; rintro e w' ⟨rfl, rfl⟩)
    go_ret
    exact ⟨by rw [HK.out]; rfl, rfl⟩
  | true =>
    rw [hb] at hh
    rcases h with ⟨rfl, rfl, _⟩ | ⟨a, p, sv, row, rfl, rfl, h⟩
    · cases hb
    · simp only [hasB, decide_eq_true_eq] at hb
      obtain ⟨n, rfl⟩ : ∃ n : Nat, id = (n : Int) + 1 := ⟨(id - 1).toNat, by omega⟩
      have hn : n < a.slots.length := by omega
      have hk := kind_at hn
      obtain ⟨c0, c1, c2⟩ := h.cells
      obtain ⟨g, cap, v, rfl, hcap, _, d0, _, _, _⟩ := h.at_ hn
      have := h.ok.fits
      have := h.ok.most
      clear hb
      have HK := Lib.hid hk; clear hk
      go_enter Tryz.func59, Tryz.ntmps59
      go_wp2_with (go_at_call 104; refine hh.mono ?_; rintro e w' ⟨rfl, rfl⟩)
      go_ret
      exact ⟨by rw [HK.out]; rfl, rfl⟩
set_option maxHeartbeats 400000 in
theorem val_any {w : World} {po : Option Addr} {A : OA} {F : Nat → Prop} (h : OAt w po A F) (id i : Int) :
    Calls Tryz.prog 101 #[.pointer po, .int .i64 id, .int .i64 i] w fun e w' => e = .returned (.int .i64 (valO A id i)) ∧ w = w' := by
  have hh := kind_any h id
  by_cases hk : kindO A id = 0
  · have hv := val_none (i := i) hk
    rw [hk] at hh
    have HV := Lib.hid hv; clear hv hk
    go_enter Tryz.func101, Tryz.ntmps101
    go_wp2_with (go_at_call 59; refine hh.mono ?_; rintro e w' ⟨rfl, rfl⟩)
    go_ret
    exact ⟨by rw [HV.out]; rfl, rfl⟩
  · obtain ⟨a, n, rfl, rfl, hn, hk1⟩ := kind_split hk
    rcases h with ⟨h0, _, _⟩ | ⟨a', p, sv, row, h0, rfl, h⟩
    · cases h0
    obtain rfl := Option.some.inj h0
    rw [kind_at hn] at hh
    clear hk h0
    obtain ⟨c0, c1, c2⟩ := h.cells
    obtain ⟨g, cap, v, rfl, hcap, _, _, d1, _, hvs, _⟩ := h.at_ hn
    have := h.ok.fits
    have := h.ok.most
    have hk2 : ((a.slots[n]).kind == 0) = false := beq_eq_false_iff_ne.2 hk1
    obtain ⟨ad, vcap, rfl, hvc, hcell⟩ := vals_form hvs
    by_cases h1 : i < 0
    · have hv := val_out hn (.inr (.inl h1))
      have HV := Lib.hid hv; clear hv hk1 hcell
      go_enter Tryz.func101, Tryz.ntmps101
      go_wp2_with (go_at_call 59; refine hh.mono ?_; rintro e w' ⟨rfl, rfl⟩)
      go_ret
      exact ⟨by rw [HV.out]; rfl, rfl⟩
    · by_cases h2 : ((a.slots[n]).vals.length : Int) ≤ i
      · have hv := val_out hn (.inr (.inr h2))
        have HV := Lib.hid hv; clear hv hk1 hcell
        go_enter Tryz.func101, Tryz.ntmps101
        go_wp2_with (go_at_call 59; refine hh.mono ?_; rintro e w' ⟨rfl, rfl⟩)
        go_ret
        exact ⟨by rw [HV.out]; rfl, rfl⟩
      · obtain ⟨j, rfl⟩ := Int.eq_ofNat_of_zero_le (by omega : 0 ≤ i)
        have hj : j < (a.slots[n]).vals.length := by omega
        have hv := val_at hn hk1 hj
        obtain ⟨b, rfl, e1⟩ := hcell j hj
        have HV := Lib.hid hv; clear hv hk1 hcell
        go_enter Tryz.func101, Tryz.ntmps101
        go_wp2_with (go_at_call 59; refine hh.mono ?_; rintro e w' ⟨rfl, rfl⟩)
        go_ret
        exact ⟨by rw [HV.out]; rfl, rfl⟩
set_option maxHeartbeats 400000 in
theorem used_any {w : World} {po : Option Addr} {A : OA} {F : Nat → Prop} (h : OAt w po A F) :
    Calls Tryz.prog 46 #[.pointer po] w fun e w' => e = .returned (.int .i64 (usedO A)) ∧ w = w' := by
  rcases h with ⟨rfl, rfl, _⟩ | ⟨a, p, sv, row, rfl, rfl, h⟩
  · go_enter Tryz.func46, Tryz.ntmps46
    go_wp2
    go_ret
    exact ⟨rfl, rfl⟩
  · obtain ⟨c0, c1, c2⟩ := h.cells
    obtain ⟨ad, cap, rfl, hcap⟩ := h.slice
    go_enter Tryz.func46, Tryz.ntmps46
    go_wp2
    go_ret
    exact ⟨rfl, rfl⟩
set_option maxHeartbeats 400000 in
theorem room_any {w : World} {po : Option Addr} {A : OA} {F : Nat → Prop} (h : OAt w po A F) :
    Calls Tryz.prog 148 #[.pointer po] w fun e w' => e = .returned (.int .i64 (roomO A)) ∧ Below w.heap.size w w' := by
  rcases h with ⟨rfl, rfl, _⟩ | ⟨a, p, sv, row, rfl, rfl, h⟩
  · go_enter Tryz.func148, Tryz.ntmps148
    go_wp2
    go_ret
    exact ⟨rfl, Below.refl _ _⟩
  · obtain ⟨c0, c1, c2⟩ := h.cells
    obtain ⟨ad, cap, rfl, hcap⟩ := h.slice
    have := h.ok.fits
    have := h.ok.most
    go_enter Tryz.func148, Tryz.ntmps148
    go_wp2
    go_quiet (fail)
    go_wp2
    go_ret
    exact ⟨rfl, ⟨rfl, rfl, rfl, Nat.le_refl _, fun _ _ => rfl⟩⟩
end Go.Proofs.YtghjnkfocjjlnaaGreat
end
section
namespace Go.Proofs.YtghjnkfocjjlnaaGreat
set_option maxRecDepth 100000
open Go.RowKit
theorem ownsRow_block {w : World} {base : Nat} {e : TypeId} {size : Nat} {v : Value} {n : Nat} {xs : List Value} (h : w.ownsRow base e size v n xs) {b : Nat} (hb : v.ownBlock = some b) : ∃ cur, w.heap[b]? = some (.cells cur e (0, 0)) := by
  rcases h.2 with ⟨rfl, _⟩ | ⟨g, cap, cur, rfl, _, hg, _⟩
  · cases hb
  · simp [Value.ownBlock] at hb; subst hb; exact ⟨cur, hg⟩
theorem block_ne {w : World} {b p : Nat} {c1 c2 : Array Value} {e1 e2 : TypeId} {f1 f2 : Nat × Nat} (h1 : w.heap[b]? = some (.cells c1 e1 f1)) (h2 : w.heap[p]? = some (.cells c2 e2 f2)) (he : e1 ≠ e2) : b ≠ p := by
  rintro rfl
  rw [h1] at h2
  simp only [Option.some.injEq, Obj.cells.injEq] at h2
  exact he h2.2.1
/-- A store into the arena's own three cells. -/
theorem ArAt.step {w : World} {p : Nat} {a : Ar} {F : Nat → Prop} {sv : Value} {row : List Value} (h : ArAt w p a F sv row) (s : Int) :
    ArAt (w.setCell ⟨p, 2, none⟩ (.int .i64 s)) p ⟨a.room, a.slots, s⟩ F sv row := by
  have far : ∀ b, b ≠ p → (w.setCell ⟨p, 2, none⟩ (.int .i64 s)).heap[b]? = w.heap[b]? := fun b hb => heap_setCell_other w _ _ _ (by simpa using hb)
  exact {
    ok := ⟨h.ok.most, h.ok.fits, h.ok.cells⟩
    blk := by rw [heap_setCell_same w p 2 _ _ _ h.blk]; rfl
    own := ownsRow_same h.own (fun b hb => far b (by obtain ⟨c, hc⟩ := ownsRow_block h.own hb; exact block_ne hc h.blk (by decide)))
    kind := h.kind
    vals := fun i x hi => by
      obtain ⟨v, h1, h2, h3⟩ := h.vals i x hi
      exact ⟨v, h1, ownsRow_same h2 (fun b hb => far b (by obtain ⟨c, hc⟩ := ownsRow_block h2 hb; exact block_ne hc h.blk (by decide))), h3⟩
    apart := h.apart
    footp := h.footp
    foots := h.foots
    lt := fun b hb => by have := h.lt b hb; simpa [World.setCell] using this }
theorem frame_setCell {F : Nat → Prop} {w : World} {a : Addr} (h : F a.block) (v : Value) : Frame F w (w.setCell a v) :=
  ⟨rfl, rfl, rfl, by simp [World.setCell], fun k _ hn => heap_setCell_other w _ _ _ (fun e => hn (e ▸ h))⟩
/-- A store into a cell's one number. -/
theorem ArAt.put {w : World} {p : Nat} {a : Ar} {F : Nat → Prop} {sv : Value} {row : List Value} (h : ArAt w p a F sv row) {n : Nat} (hn : n < a.slots.length) (hk : (a.slots[n]).kind = 0) {b cap : Nat}
    (hv : row[2 * n + 1]? = some (.slice (some ⟨b, 0, none⟩) 1 cap)) (x : Int) :
    ArAt (w.setCell ⟨b, 0, none⟩ (.int .i64 x)) p ⟨a.room, a.slots.set n ⟨0, [x]⟩, a.steps⟩ F sv row := by
  have hs : a.slots[n]? = some a.slots[n] := List.getElem?_eq_getElem hn
  obtain ⟨v0, e1, e2, e3⟩ := h.vals n _ hs
  rw [hv] at e1
  obtain rfl := Option.some.inj e1
  obtain ⟨c0, hc0⟩ := ownsRow_block e2 rfl
  have far : ∀ k, k ≠ b → (w.setCell ⟨b, 0, none⟩ (.int .i64 x)).heap[k]? = w.heap[k]? := fun k hb => heap_setCell_other w _ _ _ (by simpa using hb)
  have hb1 : (a.slots[n]).vals.length = 1 := by obtain ⟨y, hy⟩ := h.ok.cells _ (List.getElem_mem hn) hk; rw [hy]; rfl
  refine {
    ok := ⟨h.ok.most, by simpa using h.ok.fits, fun s hs => ?_⟩
    blk := (far p (by intro e; subst e; rw [h.blk] at hc0; simp at hc0)).trans h.blk
    own := by
      simp only [List.length_set]
      exact ownsRow_same h.own (fun k hk => far k (by obtain ⟨c, hc⟩ := ownsRow_block h.own hk; exact block_ne hc hc0 (by decide)))
    kind := fun i s hi => ?_
    vals := fun i s hi => ?_
    apart := h.apart
    footp := h.footp
    foots := h.foots
    lt := fun k hk => by have := h.lt k hk; simpa [World.setCell] using this }
  · rcases List.mem_or_eq_of_mem_set hs with h' | h'
    · exact h.ok.cells s h'
    · subst h'; exact fun _ => ⟨x, rfl⟩
  · by_cases e : i = n
    · subst e
      rw [List.getElem?_set_self hn] at hi
      obtain rfl := Option.some.inj hi
      rw [h.kind i _ hs, hk]
    · rw [List.getElem?_set_ne (Ne.symm e)] at hi
      exact h.kind i s hi
  · by_cases e : i = n
    · subst e
      rw [List.getElem?_set_self hn] at hi
      obtain rfl := Option.some.inj hi
      refine ⟨_, hv, ?_, e3⟩
      have := (World.ownsRow.stored (by rw [hb1] at e2; exact e2) 0 (.int .i64 x)).1
      obtain ⟨y, hy⟩ := h.ok.cells _ (List.getElem_mem hn) hk
      rw [hy] at this
      exact this
    · rw [List.getElem?_set_ne (Ne.symm e)] at hi
      obtain ⟨v, h1, h2, h3⟩ := h.vals i s hi
      refine ⟨v, h1, ownsRow_same h2 (fun k hk => far k ?_), h3⟩
      rintro rfl
      exact e (h.apart i n _ _ k h1 hv hk rfl)
/-- One slot more, behind the append and the store of the slice. -/
theorem ArAt.more {w w2 : World} {p : Nat} {a : Ar} {F : Nat → Prop} {sv : Value} {row : List Value} (h : ArAt w p a F sv row) {s : Slot} {v : Value} {g cap : Nat}
    (hroom : (a.slots.length : Int) < a.room) (hcell : s.kind = 0 → ∃ x, s.vals = [x])
    (hv : w.ownsRow 0 3 1 v s.vals.length (s.vals.map (Value.int .i64))) (hfresh : ∀ b, v.ownBlock = some b → ¬ F b)
    (hown : w2.ownsRow 0 159 2 (.slice (some ⟨g, 0, none⟩) (a.slots.length + 1) cap) (a.slots.length + 1) (row ++ [.int .i64 s.kind, v]))
    (hgrow : w.grownBy w2 sv.ownBlock) (hat : sv.ownBlock = some g ∨ w.heap.size ≤ g) (hlt : g < w2.heap.size) :
    ∃ F', ArAt (w2.setCell ⟨p, 1, none⟩ (.slice (some ⟨g, 0, none⟩) (a.slots.length + 1) cap)) p ⟨a.room, a.slots ++ [s], a.steps⟩ F' (.slice (some ⟨g, 0, none⟩) (a.slots.length + 1) cap) (row ++ [.int .i64 s.kind, v]) ∧
      Frame F w (w2.setCell ⟨p, 1, none⟩ (.slice (some ⟨g, 0, none⟩) (a.slots.length + 1) cap)) ∧ (∀ b, F' b → F b ∨ v.ownBlock = some b ∨ w.heap.size ≤ b) := by
  have hpne : some p ≠ sv.ownBlock := fun e => by
    obtain ⟨c, hc⟩ := ownsRow_block h.own e.symm
    rw [h.blk] at hc; simp at hc
  have hplt := h.lt p h.footp
  have hp2 : w2.heap[p]? = some (.cells #[.int .i64 a.room, sv, .int .i64 a.steps] 128 (0, 0)) := (hgrow.block p hplt hpne).trans h.blk
  have far : ∀ k, k ≠ p → (w2.setCell ⟨p, 1, none⟩ (.slice (some ⟨g, 0, none⟩) (a.slots.length + 1) cap)).heap[k]? = w2.heap[k]? := fun k hb => heap_setCell_other w2 _ _ _ (by simpa using hb)
  have hrl : row.length = 2 * a.slots.length := by have := h.own.1; omega
  have keep : ∀ (u : Value) (l : List Int), w.ownsRow 0 3 1 u l.length (l.map (Value.int .i64)) → (w2.setCell ⟨p, 1, none⟩ (.slice (some ⟨g, 0, none⟩) (a.slots.length + 1) cap)).ownsRow 0 3 1 u l.length (l.map (Value.int .i64)) := fun u l hu =>
    ownsRow_same hu (fun b hb => by
      obtain ⟨c, hc⟩ := ownsRow_block hu hb
      have hbl : b < w.heap.size := (Array.getElem?_eq_some_iff.1 hc).1
      rw [far b (block_ne hc h.blk (by decide)), hgrow.block b hbl (fun e => by obtain ⟨c', hc'⟩ := ownsRow_block h.own e.symm; rw [hc] at hc'; simp at hc')])
  refine ⟨fun b => F b ∨ v.ownBlock = some b ∨ (w.heap.size ≤ b ∧ b < w2.heap.size), ?_, ?_, fun b hb => hb.imp id (fun h' => h'.imp id (fun h'' => h''.1))⟩
  · refine {
      ok := ⟨h.ok.most, by simp only [List.length_append, List.length_singleton]; omega, fun s' hs' => ?_⟩
      blk := by rw [heap_setCell_same w2 p 1 _ _ _ hp2]; rfl
      own := by
        simp only [List.length_append, List.length_singleton]
        refine ownsRow_same hown (fun k hk => far k ?_)
        obtain ⟨c, hc⟩ := ownsRow_block hown hk
        exact block_ne hc hp2 (by decide)
      kind := fun i s' hi => ?_
      vals := fun i s' hi => ?_
      apart := fun i j u u' b hi hj hu hu' => ?_
      footp := .inl h.footp
      foots := fun b hb => by
        simp [Value.ownBlock] at hb
        subst hb
        rcases hat with h' | h'
        · exact .inl (h.foots _ h')
        · exact .inr (.inr ⟨h', hlt⟩)
      lt := fun b hb => by
        show b < (w2.setCell _ _).heap.size
        have := hgrow.size
        simp only [World.setCell, Array.size_modify]
        rcases hb with h' | h' | h'
        · have := h.lt b h'; omega
        · obtain ⟨c, hc⟩ := ownsRow_block hv h'
          have := (Array.getElem?_eq_some_iff.1 hc).1; omega
        · exact h'.2 }
    · rcases List.mem_append.1 hs' with h' | h'
      · exact h.ok.cells s' h'
      · simp at h'; subst h'; exact hcell
    · by_cases e : i < a.slots.length
      · rw [List.getElem?_append_left e] at hi
        rw [List.getElem?_append_left (by omega)]
        exact h.kind i s' hi
      · have hi' : i = a.slots.length := by
          have := (List.getElem?_eq_some_iff.1 hi).1
          simp at this; omega
        subst hi'
        rw [List.getElem?_append_right (by omega)] at hi
        simp at hi; subst hi
        rw [List.getElem?_append_right (by omega), hrl]; simp
    · by_cases e : i < a.slots.length
      · rw [List.getElem?_append_left e] at hi
        obtain ⟨u, h1, h2, h3⟩ := h.vals i s' hi
        exact ⟨u, by rw [List.getElem?_append_left (by omega)]; exact h1, keep u _ h2, fun b hb => .inl (h3 b hb)⟩
      · have hi' : i = a.slots.length := by
          have := (List.getElem?_eq_some_iff.1 hi).1
          simp at this; omega
        subst hi'
        rw [List.getElem?_append_right (by omega)] at hi
        simp at hi; subst hi
        exact ⟨v, by rw [List.getElem?_append_right (by omega), hrl]; simp, keep v _ hv, fun b hb => .inr (.inl hb)⟩
    · have old : ∀ (k : Nat) (x : Value) (b : Nat), (row ++ [Value.int .i64 s.kind, v])[2 * k + 1]? = some x → x.ownBlock = some b → (k < a.slots.length ∧ row[2 * k + 1]? = some x ∧ F b) ∨ (k = a.slots.length ∧ x = v) := by
        intro k x b hx hb
        have hk := (List.getElem?_eq_some_iff.1 hx).1
        simp only [List.length_append, List.length_cons, List.length_nil] at hk
        by_cases e : k < a.slots.length
        · rw [List.getElem?_append_left (by omega)] at hx
          refine .inl ⟨e, hx, ?_⟩
          obtain ⟨x', h1, _, h3⟩ := h.vals k _ (List.getElem?_eq_getElem e)
          rw [hx] at h1
          obtain rfl := Option.some.inj h1
          exact h3 b hb
        · obtain rfl : k = a.slots.length := by omega
          rw [List.getElem?_append_right (by omega), hrl] at hx
          simp at hx
          exact .inr ⟨rfl, hx.symm⟩
      rcases old i u b hi hu with ⟨_, h1, f1⟩ | ⟨e1, rfl⟩
      · rcases old j u' b hj hu' with ⟨_, h2, f2⟩ | ⟨e2, rfl⟩
        · exact h.apart i j u u' b h1 h2 hu hu'
        · exact absurd f1 (hfresh b hu')
      · rcases old j u' b hj hu' with ⟨_, h2, f2⟩ | ⟨e2, rfl⟩
        · exact absurd f2 (hfresh b hu)
        · rw [e1, e2]
  · refine ⟨hgrow.os, hgrow.tape, hgrow.output, by have := hgrow.size; simpa [World.setCell] using this, fun k hk hn => ?_⟩
    rw [far k (fun e => hn (e ▸ h.footp)), hgrow.block k hk (fun e => hn (h.foots k e.symm))]
theorem OAt.frame {w w' : World} {po : Option Addr} {A : OA} {F G : Nat → Prop} (h : OAt w po A F) (hf : Frame G w w') (hd : ∀ b, F b → ¬ G b) : OAt w' po A F :=
  h.same (fun b hb => hf.block b (h.lt b hb) (hd b hb)) hf.size
end Go.Proofs.YtghjnkfocjjlnaaGreat
end
