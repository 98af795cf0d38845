/- What the packages put, cut, part and join answer over any arena, as plain functions. No program in sight. -/
import Derived.Test.YtakgknoldkfekaaLookP
namespace Go.Proofs.Ytakgknoldkfekaa
set_option maxRecDepth 100000
open Go.RowKit (wrap64)
open Go.Proofs.Ytakgknoldkfekaa.Mix

/-- The pairs below a key, and the others: two numbers, why not, the arena behind it. -/
def splitF : Nat → OA → Int → Int → Int × Int × Int × OA
  | 0, A, _, _ => (0, 0, 0, A)
  | n + 1, A, t, key =>
    if isN A t = false then (0, 0, 0, A)
    else if (getH A t).key < key then
      (if (splitF n A (getH A t).right key).2.2.1 = 0 then
        ((makeN (splitF n A (getH A t).right key).2.2.2 (getH A t).key (getH A t).val (getH A t).left (splitF n A (getH A t).right key).1).1,
         (splitF n A (getH A t).right key).2.1,
         (makeN (splitF n A (getH A t).right key).2.2.2 (getH A t).key (getH A t).val (getH A t).left (splitF n A (getH A t).right key).1).2.1,
         (makeN (splitF n A (getH A t).right key).2.2.2 (getH A t).key (getH A t).val (getH A t).left (splitF n A (getH A t).right key).1).2.2)
       else splitF n A (getH A t).right key)
    else
      (if (splitF n A (getH A t).left key).2.2.1 = 0 then
        ((splitF n A (getH A t).left key).1,
         (makeN (splitF n A (getH A t).left key).2.2.2 (getH A t).key (getH A t).val (splitF n A (getH A t).left key).2.1 (getH A t).right).1,
         (makeN (splitF n A (getH A t).left key).2.2.2 (getH A t).key (getH A t).val (splitF n A (getH A t).left key).2.1 (getH A t).right).2.1,
         (makeN (splitF n A (getH A t).left key).2.2.2 (getH A t).key (getH A t).val (splitF n A (getH A t).left key).2.1 (getH A t).right).2.2)
       else splitF n A (getH A t).left key)
/-- The same, but that nothing is told where it is refused further down. -/
def partsF : Nat → OA → Int → Int → Int × Int × Int × OA
  | 0, A, _, _ => (0, 0, 0, A)
  | n + 1, A, t, key =>
    if isN A t = false then (0, 0, 0, A)
    else if (getH A t).key < key then
      (if (partsF n A (getH A t).right key).2.2.1 = 0 then
        ((makeN (partsF n A (getH A t).right key).2.2.2 (getH A t).key (getH A t).val (getH A t).left (partsF n A (getH A t).right key).1).1,
         (partsF n A (getH A t).right key).2.1,
         (makeN (partsF n A (getH A t).right key).2.2.2 (getH A t).key (getH A t).val (getH A t).left (partsF n A (getH A t).right key).1).2.1,
         (makeN (partsF n A (getH A t).right key).2.2.2 (getH A t).key (getH A t).val (getH A t).left (partsF n A (getH A t).right key).1).2.2)
       else (0, 0, (partsF n A (getH A t).right key).2.2))
    else
      (if (partsF n A (getH A t).left key).2.2.1 = 0 then
        ((partsF n A (getH A t).left key).1,
         (makeN (partsF n A (getH A t).left key).2.2.2 (getH A t).key (getH A t).val (partsF n A (getH A t).left key).2.1 (getH A t).right).1,
         (makeN (partsF n A (getH A t).left key).2.2.2 (getH A t).key (getH A t).val (partsF n A (getH A t).left key).2.1 (getH A t).right).2.1,
         (makeN (partsF n A (getH A t).left key).2.2.2 (getH A t).key (getH A t).val (partsF n A (getH A t).left key).2.1 (getH A t).right).2.2)
       else (0, 0, (partsF n A (getH A t).left key).2.2))
/-- A pair more, on the way down. -/
noncomputable def putF : Nat → OA → Int → Int → Int → Int × Int × OA
  | 0, A, _, _, _ => (0, 0, A)
  | n + 1, A, t, k, v =>
    if isN A t = false then makeN A k v 0 0
    else if (getH A t).key = k then makeN A k v (getH A t).left (getH A t).right
    else if above k (getH A t).key = true then
      (if (splitF (n + 1) A t k).2.2.1 = 0 then makeN (splitF (n + 1) A t k).2.2.2 k v (splitF (n + 1) A t k).1 (splitF (n + 1) A t k).2.1
       else (0, (splitF (n + 1) A t k).2.2))
    else if k < (getH A t).key then
      (if (putF n A (getH A t).left k v).2.1 = 0 then makeN (putF n A (getH A t).left k v).2.2 (getH A t).key (getH A t).val (putF n A (getH A t).left k v).1 (getH A t).right
       else (0, (putF n A (getH A t).left k v).2))
    else
      (if (putF n A (getH A t).right k v).2.1 = 0 then makeN (putF n A (getH A t).right k v).2.2 (getH A t).key (getH A t).val (getH A t).left (putF n A (getH A t).right k v).1
       else (0, (putF n A (getH A t).right k v).2))
/-- Two treaps in one. -/
noncomputable def mergeF : Nat → OA → Int → Int → Int × Int × OA
  | 0, A, _, _ => (0, 0, A)
  | n + 1, A, l, r =>
    if isN A l = false then (r, 0, A)
    else if isN A r = false then (l, 0, A)
    else if above (getN A l).key (getN A r).key = true then
      (if (mergeF n A (hangO A l (getN A l).right) r).2.1 = 0 then
        makeN (mergeF n A (hangO A l (getN A l).right) r).2.2 (getN A l).key (getN A l).val (hangO (mergeF n A (hangO A l (getN A l).right) r).2.2 l (getN A l).left) (mergeF n A (hangO A l (getN A l).right) r).1
       else (0, (mergeF n A (hangO A l (getN A l).right) r).2))
    else
      (if (mergeF n A l (hangO A r (getN A r).left)).2.1 = 0 then
        makeN (mergeF n A l (hangO A r (getN A r).left)).2.2 (getN A r).key (getN A r).val (mergeF n A l (hangO A r (getN A r).left)).1 (hangO (mergeF n A l (hangO A r (getN A r).left)).2.2 r (getN A r).right)
       else (0, (mergeF n A l (hangO A r (getN A r).left)).2))
/-- A key less, on the way down. -/
noncomputable def cutF : Nat → OA → Int → Int → Int × Int × OA
  | 0, A, _, _ => (0, 0, A)
  | n + 1, A, t, key =>
    if isN A t = false then (0, 0, A)
    else if (getH A t).key = key then mergeF ((getH A t).left.toNat + (getH A t).right.toNat + 1) A (getH A t).left (getH A t).right
    else if key < (getH A t).key then
      (if (cutF n A (getH A t).left key).2.1 = 0 then makeN (cutF n A (getH A t).left key).2.2 (getH A t).key (getH A t).val (cutF n A (getH A t).left key).1 (getH A t).right
       else (0, (cutF n A (getH A t).left key).2))
    else
      (if (cutF n A (getH A t).right key).2.1 = 0 then makeN (cutF n A (getH A t).right key).2.2 (getH A t).key (getH A t).val (getH A t).left (cutF n A (getH A t).right key).1
       else (0, (cutF n A (getH A t).right key).2))

/-- Is there such a treap? -/
def isT (A : OA) (t : Int) : Bool := A.isSome && (decide (t = 0) || isN A t)
def fuel (t : Int) : Nat := t.toNat + 1
theorem lt_fuel (t : Int) : t < fuel t := by unfold fuel; omega
/-- Put: the treap, what was there, was there one, why not, the arena behind it. -/
noncomputable def putO (A : OA) (t k v : Int) : Int × Int × Bool × Int × OA :=
  if isT A t = false then (0, 0, false, 1, A)
  else if (putF (fuel t) A t k v).2.1 = 0 then ((putF (fuel t) A t k v).1, (lgF (fuel t) A t k).1, (lgF (fuel t) A t k).2, 0, (putF (fuel t) A t k v).2.2)
  else (0, 0, false, (putF (fuel t) A t k v).2)
noncomputable def addO (A : OA) (t k v : Int) : Int × Int × Bool × Int × OA :=
  if isT A t = false then (0, 0, false, 1, A)
  else if (lgF (fuel t) A t k).2 = true then (t, (lgF (fuel t) A t k).1, true, 0, A) else putO A t k v
/-- All of them, one behind the other. -/
noncomputable def ofL : List Pr → OA → Int → Int × Int × OA
  | [], A, t => (t, 0, A)
  | p :: r, A, t => if (putO A t p.1 p.2).2.2.2.1 = 0 then ofL r (putO A t p.1 p.2).2.2.2.2 (putO A t p.1 p.2).1 else (0, (putO A t p.1 p.2).2.2.2)
noncomputable def ofO (A : OA) (l : List Pr) : Int × Int × OA := if A.isSome = true then ofL l A 0 else (0, 1, A)
noncomputable def cutO (A : OA) (t key : Int) : Int × Int × Bool × Int × OA :=
  if isT A t = false then (0, 0, false, 1, A)
  else if (lgF (fuel t) A t key).2 = false then (t, 0, false, 0, A)
  else if (cutF (fuel t) A t key).2.1 = 0 then ((cutF (fuel t) A t key).1, (lgF (fuel t) A t key).1, true, 0, (cutF (fuel t) A t key).2.2)
  else (0, 0, false, (cutF (fuel t) A t key).2)
def partO (A : OA) (t key : Int) : Int × Int × Int × OA :=
  if isT A t = false then (0, 0, 1, A)
  else if (partsF (fuel t) A t key).2.2.1 = 0 then partsF (fuel t) A t key else (0, 0, (partsF (fuel t) A t key).2.2)
/-- The key at which a treap is parted in halves. -/
def midO (A : OA) (t : Int) : Int × Bool := if sizeO A t < 2 then (0, false) else ((nthO (fuel t) A t (wrap64 ((sizeO A t).tdiv 2))).1, (nthO (fuel t) A t (wrap64 ((sizeO A t).tdiv 2))).2.2)
def halfO (A : OA) (t : Int) : Int × Int × Int × Int × OA :=
  if isT A t = false then (0, 0, 0, 1, A)
  else if (midO A t).2 = false then (0, 0, 0, 3, A)
  else if (partO A t (midO A t).1).2.2.1 = 0 then ((midO A t).1, partO A t (midO A t).1) else (0, 0, 0, (partO A t (midO A t).1).2.2)
noncomputable def twoO (A : OA) (l r : Int) : Int × Int × OA :=
  if A.isNone = true ∨ (l ≠ 0 ∧ isN A l = false) ∨ (r ≠ 0 ∧ isN A r = false) ∨ ((maxF (fuel l) A l).2.2 = true ∧ (minF (fuel r) A r).2.2 = true ∧ (minF (fuel r) A r).1 ≤ (maxF (fuel l) A l).1) then (0, 1, A)
  else mergeF (l.toNat + r.toNat + 1) A l r
noncomputable def allL : List Int → OA → Int → Int × Int × OA
  | [], A, t => (t, 0, A)
  | x :: r, A, t => if (twoO A t x).2.1 = 0 then allL r (twoO A t x).2.2 (twoO A t x).1 else (0, (twoO A t x).2)
noncomputable def allO (A : OA) (l : List Int) : Int × Int × OA := if A.isSome = true then allL l A 0 else (0, 1, A)

end Go.Proofs.Ytakgknoldkfekaa
