/- Nodes: what the program's node package answers, as plain functions. -/
import Derived.Test.YtakgknoldkfekaaAbs
namespace Go.Proofs.Ytakgknoldkfekaa
set_option maxRecDepth 100000
open Go.RowKit (wrap64)

structure Nd where
  key : Int
  val : Int
  left : Int
  right : Int
  size : Int
  high : Int
def isN (A : OA) (t : Int) : Bool := decide (kindO A t = 1)
def getN (A : OA) (t : Int) : Nd := if kindO A t = 1 then ⟨valO A t 0, valO A t 1, valO A t 2, valO A t 3, valO A t 4, valO A t 5⟩ else ⟨0, 0, 0, 0, 0, 0⟩
/-- What is told by a node made of a pair and two treaps. -/
def nodeVals (A : OA) (k v l r : Int) : List Int :=
  [k, v, l, r, wrap64 (wrap64 ((getN A l).size + (getN A r).size) + 1), wrap64 ((if (getN A l).high < (getN A r).high then (getN A r).high else (getN A l).high) + 1)]
def badArg (A : OA) (l r : Int) : Bool := A.isNone || (decide (l ≠ 0) && !isN A l) || (decide (r ≠ 0) && !isN A r)
def makeN (A : OA) (k v l r : Int) : Int × Int × OA := if badArg A l r = true then (0, 1, A) else makeO A 1 (nodeVals A k v l r)

end Go.Proofs.Ytakgknoldkfekaa
