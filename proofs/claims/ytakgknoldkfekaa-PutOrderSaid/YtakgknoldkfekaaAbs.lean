/- Arenas, nodes, lists of pairs: plain functions that tell what the program's functions answer. No program in sight. -/
import Derived.RowKit
import Derived.Test.YtakgknoldkfekaaMix
namespace Go.Proofs.Ytakgknoldkfekaa
set_option maxRecDepth 100000
open Go.RowKit (wrap64)

/-- A record (kind 1 and more) or a cell (kind 0). -/
structure Slot where
  kind : Int
  vals : List Int
/-- Records and cells, room for how many, steps made. -/
structure Ar where
  room : Int
  slots : List Slot
  steps : Int
/-- An arena, or none. -/
abbrev OA := Option Ar

/-- What holds of every arena. -/
structure Ar.Ok (a : Ar) : Prop where
  most : a.room ≤ 60000
  fits : (a.slots.length : Int) ≤ a.room
  cells : ∀ s ∈ a.slots, s.kind = 0 → ∃ v, s.vals = [v]

def slotAt (a : Ar) (id : Int) : Slot := a.slots.getD (id - 1).toNat ⟨0, []⟩
def hasB : OA → Int → Bool
  | none, _ => false
  | some a, id => decide (1 ≤ id ∧ id ≤ a.slots.length)
def kindO : OA → Int → Int
  | none, _ => 0
  | some a, id => if 1 ≤ id ∧ id ≤ a.slots.length then (slotAt a id).kind else 0
def valO : OA → Int → Int → Int
  | none, _, _ => 0
  | some a, id, i => if 1 ≤ id ∧ id ≤ a.slots.length ∧ (slotAt a id).kind ≠ 0 ∧ 0 ≤ i ∧ i < (slotAt a id).vals.length then (slotAt a id).vals.getD i.toNat 0 else 0
def usedO : OA → Int
  | none => 0
  | some a => a.slots.length
def roomO : OA → Int
  | none => 0
  | some a => a.room - a.slots.length
def stepsO : OA → Int
  | none => 0
  | some a => a.steps
def newA (room : Int) : Ar := ⟨min (max room 0) 60000, [], 0⟩
/-- One more record or cell: its number, 0 or why not, the arena behind it. -/
def addA (a : Ar) (s : Slot) : Int × Int × Ar :=
  if a.room - a.slots.length = 0 then (0, 2, a) else (a.slots.length + 1, 0, ⟨a.room, a.slots ++ [s], a.steps⟩)
def makeO : OA → Int → List Int → Int × Int × OA
  | none, _, _ => (0, 1, none)
  | some a, k, l => if k < 1 ∨ 12 < (l.length : Int) then (0, 1, some a) else ((addA a ⟨k, l⟩).1, (addA a ⟨k, l⟩).2.1, some (addA a ⟨k, l⟩).2.2)
def cellO : OA → Int → Int × Int × OA
  | none, _ => (0, 1, none)
  | some a, v => ((addA a ⟨0, [v]⟩).1, (addA a ⟨0, [v]⟩).2.1, some (addA a ⟨0, [v]⟩).2.2)
/-- Is there such a cell? -/
def isCell : OA → Int → Bool
  | none, _ => false
  | some a, id => decide (1 ≤ id ∧ id ≤ a.slots.length ∧ (slotAt a id).kind = 0)
def holds (a : Ar) (id : Int) : Int := (slotAt a id).vals.getD 0 0
def stepA (a : Ar) : Ar := ⟨a.room, a.slots, wrap64 (a.steps + 1)⟩
def putA (a : Ar) (id v : Int) : Ar := ⟨a.room, a.slots.set (id - 1).toNat ⟨0, [v]⟩, a.steps⟩

end Go.Proofs.Ytakgknoldkfekaa
