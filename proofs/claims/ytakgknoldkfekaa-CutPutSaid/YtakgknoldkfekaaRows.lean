/-
  No cell of these rows narrows 'for every input' (looked for: loops, veiled, ifaces, maps, wideKeys, modest, calm, conditions, laid).
  DERIVED. THE GIVEN ROWS OF THIS SEAT. 11 by the template 'for every input the law returns true; each argument reads behind the call as it read before'; 0 by the template 'total and deterministic' (their statements: YtakgknoldkfekaaTotals.lean).
  GIVEN WITH THE SEED: the statements are not yours to turn. If you find one false, say at which input.
  Laid BY PROGRAM, IN A SANDBOX (cutbox-rows.mjs): the forced cells as the released guide's own fill.sh prints them over the translation cc4d5ef294845471… (all of the seat's roots in one cut). By AI agents, Wed Nov 11 2026. No macro, syntax, notation, axiom, sorry.
-/
import Derived.Test.YtakgknoldkfekaaChecked
import GoSem.Claim
import GoSem.ClaimJoined
import GoSem.ClaimMapViews
import Derived.JoinedTies
import Derived.KernelRfl
namespace Go.Proofs.Ytakgknoldkfekaa
/- THE CELL 'sum', in the pinned program and in every row, IS THE sha256 OF THE DUMP (.gsa) THAT YtakgknoldkfekaaProg.lean LOADS. Nothing in Lean hashes anything: it is a label: what it is worth is what the hold of that sum in a sandbox is worth. -/
noncomputable def Try.pinned : Pinned := { name := "ytakgknoldkfekaa", sum := "cc4d5ef2948454717d07e4af9a817a8bc845081e714243382c18528f919c3538", checked := Try.checked }
namespace Rows
def none {H : Type} : Left H := { results := [], args := [] }

/-- 'osierlaw7.PartEnds': WHATEVER THE INPUT: true; the input reads as it did. -/
def partEndsSpec : ChangeSpec := { name := "partEnds", fn := fun _ => fun
  | [d1, d2] => { results := [.lit (.bool true)], args := [d1, d2] }
  | _ => none }
def partEndsRow : OpenClaim := { program := "ytakgknoldkfekaa", sum := "cc4d5ef2948454717d07e4af9a817a8bc845081e714243382c18528f919c3538", func := "osier/osierlaw7.PartEnds", spec := "partEnds", recurses := true, apart := false }
def PartEndsSaid : Prop := partEndsRow.holds Try.pinned (OpenSpec.ofChange partEndsSpec)

/-- ITS FALSE NEIGHBOUR: 'it returns false'. Refute it at one input. -/
def partEndsWrong : ChangeSpec := { name := "partEnds", fn := fun _ => fun
  | [d1, d2] => { results := [.lit (.bool false)], args := [d1, d2] }
  | _ => none }
def PartEndsWrongFalsely : Prop := partEndsRow.holds Try.pinned (OpenSpec.ofChange partEndsWrong)

/-- 'osierlaw7.PartForms': WHATEVER THE INPUT: true; the input reads as it did. -/
def partFormsSpec : ChangeSpec := { name := "partForms", fn := fun _ => fun
  | [d1, d2] => { results := [.lit (.bool true)], args := [d1, d2] }
  | _ => none }
def partFormsRow : OpenClaim := { program := "ytakgknoldkfekaa", sum := "cc4d5ef2948454717d07e4af9a817a8bc845081e714243382c18528f919c3538", func := "osier/osierlaw7.PartForms", spec := "partForms", recurses := true, apart := false }
def PartFormsSaid : Prop := partFormsRow.holds Try.pinned (OpenSpec.ofChange partFormsSpec)

/-- ITS FALSE NEIGHBOUR: 'it returns false'. Refute it at one input. -/
def partFormsWrong : ChangeSpec := { name := "partForms", fn := fun _ => fun
  | [d1, d2] => { results := [.lit (.bool false)], args := [d1, d2] }
  | _ => none }
def PartFormsWrongFalsely : Prop := partFormsRow.holds Try.pinned (OpenSpec.ofChange partFormsWrong)

/-- 'osierlaw7.PartFull': WHATEVER THE INPUT: true; the input reads as it did. -/
def partFullSpec : ChangeSpec := { name := "partFull", fn := fun _ => fun
  | [d1, d2, d3] => { results := [.lit (.bool true)], args := [d1, d2, d3] }
  | _ => none }
def partFullRow : OpenClaim := { program := "ytakgknoldkfekaa", sum := "cc4d5ef2948454717d07e4af9a817a8bc845081e714243382c18528f919c3538", func := "osier/osierlaw7.PartFull", spec := "partFull", recurses := true, apart := false }
def PartFullSaid : Prop := partFullRow.holds Try.pinned (OpenSpec.ofChange partFullSpec)

/-- ITS FALSE NEIGHBOUR: 'it returns false'. Refute it at one input. -/
def partFullWrong : ChangeSpec := { name := "partFull", fn := fun _ => fun
  | [d1, d2, d3] => { results := [.lit (.bool false)], args := [d1, d2, d3] }
  | _ => none }
def PartFullWrongFalsely : Prop := partFullRow.holds Try.pinned (OpenSpec.ofChange partFullWrong)

/-- 'osierlaw6.CutFull': WHATEVER THE INPUT: true; the input reads as it did. -/
def cutFullSpec : ChangeSpec := { name := "cutFull", fn := fun _ => fun
  | [d1, d2, d3] => { results := [.lit (.bool true)], args := [d1, d2, d3] }
  | _ => none }
def cutFullRow : OpenClaim := { program := "ytakgknoldkfekaa", sum := "cc4d5ef2948454717d07e4af9a817a8bc845081e714243382c18528f919c3538", func := "osier/osierlaw6.CutFull", spec := "cutFull", recurses := true, apart := false }
def CutFullSaid : Prop := cutFullRow.holds Try.pinned (OpenSpec.ofChange cutFullSpec)

/-- ITS FALSE NEIGHBOUR: 'it returns false'. Refute it at one input. -/
def cutFullWrong : ChangeSpec := { name := "cutFull", fn := fun _ => fun
  | [d1, d2, d3] => { results := [.lit (.bool false)], args := [d1, d2, d3] }
  | _ => none }
def CutFullWrongFalsely : Prop := cutFullRow.holds Try.pinned (OpenSpec.ofChange cutFullWrong)

/-- 'osierlaw6.CutRaw': WHATEVER THE INPUT: true; the input reads as it did. -/
def cutRawSpec : ChangeSpec := { name := "cutRaw", fn := fun _ => fun
  | [d1, d2, d3] => { results := [.lit (.bool true)], args := [d1, d2, d3] }
  | _ => none }
def cutRawRow : OpenClaim := { program := "ytakgknoldkfekaa", sum := "cc4d5ef2948454717d07e4af9a817a8bc845081e714243382c18528f919c3538", func := "osier/osierlaw6.CutRaw", spec := "cutRaw", recurses := true, apart := false }
def CutRawSaid : Prop := cutRawRow.holds Try.pinned (OpenSpec.ofChange cutRawSpec)

/-- ITS FALSE NEIGHBOUR: 'it returns false'. Refute it at one input. -/
def cutRawWrong : ChangeSpec := { name := "cutRaw", fn := fun _ => fun
  | [d1, d2, d3] => { results := [.lit (.bool false)], args := [d1, d2, d3] }
  | _ => none }
def CutRawWrongFalsely : Prop := cutRawRow.holds Try.pinned (OpenSpec.ofChange cutRawWrong)

/-- 'osierlaw7.PartMiddle': WHATEVER THE INPUT: true; the input reads as it did. -/
def partMiddleSpec : ChangeSpec := { name := "partMiddle", fn := fun _ => fun
  | [d] => { results := [.lit (.bool true)], args := [d] }
  | _ => none }
def partMiddleRow : OpenClaim := { program := "ytakgknoldkfekaa", sum := "cc4d5ef2948454717d07e4af9a817a8bc845081e714243382c18528f919c3538", func := "osier/osierlaw7.PartMiddle", spec := "partMiddle", recurses := true, apart := false }
def PartMiddleSaid : Prop := partMiddleRow.holds Try.pinned (OpenSpec.ofChange partMiddleSpec)

/-- ITS FALSE NEIGHBOUR: 'it returns false'. Refute it at one input. -/
def partMiddleWrong : ChangeSpec := { name := "partMiddle", fn := fun _ => fun
  | [d] => { results := [.lit (.bool false)], args := [d] }
  | _ => none }
def PartMiddleWrongFalsely : Prop := partMiddleRow.holds Try.pinned (OpenSpec.ofChange partMiddleWrong)

/-- 'osierlaw5.PutOrder': WHATEVER THE INPUT: true; the input reads as it did. -/
def putOrderSpec : ChangeSpec := { name := "putOrder", fn := fun _ => fun
  | [d1, d2] => { results := [.lit (.bool true)], args := [d1, d2] }
  | _ => none }
def putOrderRow : OpenClaim := { program := "ytakgknoldkfekaa", sum := "cc4d5ef2948454717d07e4af9a817a8bc845081e714243382c18528f919c3538", func := "osier/osierlaw5.PutOrder", spec := "putOrder", recurses := true, apart := false }
def PutOrderSaid : Prop := putOrderRow.holds Try.pinned (OpenSpec.ofChange putOrderSpec)

/-- ITS FALSE NEIGHBOUR: 'it returns false'. Refute it at one input. -/
def putOrderWrong : ChangeSpec := { name := "putOrder", fn := fun _ => fun
  | [d1, d2] => { results := [.lit (.bool false)], args := [d1, d2] }
  | _ => none }
def PutOrderWrongFalsely : Prop := putOrderRow.holds Try.pinned (OpenSpec.ofChange putOrderWrong)

/-- 'osierlaw5.PutGets': WHATEVER THE INPUT: true; the input reads as it did. -/
def putGetsSpec : ChangeSpec := { name := "putGets", fn := fun _ => fun
  | [d1, d2, d3] => { results := [.lit (.bool true)], args := [d1, d2, d3] }
  | _ => none }
def putGetsRow : OpenClaim := { program := "ytakgknoldkfekaa", sum := "cc4d5ef2948454717d07e4af9a817a8bc845081e714243382c18528f919c3538", func := "osier/osierlaw5.PutGets", spec := "putGets", recurses := true, apart := false }
def PutGetsSaid : Prop := putGetsRow.holds Try.pinned (OpenSpec.ofChange putGetsSpec)

/-- ITS FALSE NEIGHBOUR: 'it returns false'. Refute it at one input. -/
def putGetsWrong : ChangeSpec := { name := "putGets", fn := fun _ => fun
  | [d1, d2, d3] => { results := [.lit (.bool false)], args := [d1, d2, d3] }
  | _ => none }
def PutGetsWrongFalsely : Prop := putGetsRow.holds Try.pinned (OpenSpec.ofChange putGetsWrong)

/-- 'osierlaw5.PutFull': WHATEVER THE INPUT: true; the input reads as it did. -/
def putFullSpec : ChangeSpec := { name := "putFull", fn := fun _ => fun
  | [d1, d2, d3] => { results := [.lit (.bool true)], args := [d1, d2, d3] }
  | _ => none }
def putFullRow : OpenClaim := { program := "ytakgknoldkfekaa", sum := "cc4d5ef2948454717d07e4af9a817a8bc845081e714243382c18528f919c3538", func := "osier/osierlaw5.PutFull", spec := "putFull", recurses := true, apart := false }
def PutFullSaid : Prop := putFullRow.holds Try.pinned (OpenSpec.ofChange putFullSpec)

/-- ITS FALSE NEIGHBOUR: 'it returns false'. Refute it at one input. -/
def putFullWrong : ChangeSpec := { name := "putFull", fn := fun _ => fun
  | [d1, d2, d3] => { results := [.lit (.bool false)], args := [d1, d2, d3] }
  | _ => none }
def PutFullWrongFalsely : Prop := putFullRow.holds Try.pinned (OpenSpec.ofChange putFullWrong)

/-- 'osierlaw5.PutForms': WHATEVER THE INPUT: true; the input reads as it did. -/
def putFormsSpec : ChangeSpec := { name := "putForms", fn := fun _ => fun
  | [d1, d2, d3] => { results := [.lit (.bool true)], args := [d1, d2, d3] }
  | _ => none }
def putFormsRow : OpenClaim := { program := "ytakgknoldkfekaa", sum := "cc4d5ef2948454717d07e4af9a817a8bc845081e714243382c18528f919c3538", func := "osier/osierlaw5.PutForms", spec := "putForms", recurses := true, apart := false }
def PutFormsSaid : Prop := putFormsRow.holds Try.pinned (OpenSpec.ofChange putFormsSpec)

/-- ITS FALSE NEIGHBOUR: 'it returns false'. Refute it at one input. -/
def putFormsWrong : ChangeSpec := { name := "putForms", fn := fun _ => fun
  | [d1, d2, d3] => { results := [.lit (.bool false)], args := [d1, d2, d3] }
  | _ => none }
def PutFormsWrongFalsely : Prop := putFormsRow.holds Try.pinned (OpenSpec.ofChange putFormsWrong)

/-- 'osierlaw6.CutPut': WHATEVER THE INPUT: true; the input reads as it did. -/
def cutPutSpec : ChangeSpec := { name := "cutPut", fn := fun _ => fun
  | [d1, d2, d3] => { results := [.lit (.bool true)], args := [d1, d2, d3] }
  | _ => none }
def cutPutRow : OpenClaim := { program := "ytakgknoldkfekaa", sum := "cc4d5ef2948454717d07e4af9a817a8bc845081e714243382c18528f919c3538", func := "osier/osierlaw6.CutPut", spec := "cutPut", recurses := true, apart := false }
def CutPutSaid : Prop := cutPutRow.holds Try.pinned (OpenSpec.ofChange cutPutSpec)

/-- ITS FALSE NEIGHBOUR: 'it returns false'. Refute it at one input. -/
def cutPutWrong : ChangeSpec := { name := "cutPut", fn := fun _ => fun
  | [d1, d2, d3] => { results := [.lit (.bool false)], args := [d1, d2, d3] }
  | _ => none }
def CutPutWrongFalsely : Prop := cutPutRow.holds Try.pinned (OpenSpec.ofChange cutPutWrong)

/- THE SECOND FORM. 'bulk': how many values and letters a reading holds, each counted each time it is reached (what is shared counts as often as it is met; a slice's spare places count too). A statement '..UptoSaid' is the law's where the arguments, and the package variables that the reading takes, are together of bulk at most 1048576: NARROWER than '..Said'. Prove '..Said' where nothing that the law and all that it calls make is longer than what came in: it says more and counts as full. Else prove '..UptoSaid'. A law counts once. -/
mutual
def uptoBulk {H : Type} : DataW H → Nat
  | .lit (.string bytes) => bytes.length + 1
  | .lit _ => 1
  | .nil => 1
  | .ptr d => uptoBulk d + 1
  | .slice elems spare => uptoBulkAll elems + uptoBulkAll spare + 1
  | .agg parts => uptoBulkAll parts + 1
  | .iface _ d => uptoBulk d + 1
  | .map entries => uptoBulkEntries entries + 1
  | .held _ => 1
def uptoBulkAll {H : Type} : List (DataW H) → Nat
  | [] => 0
  | d :: r => uptoBulk d + uptoBulkAll r
def uptoBulkEntries {H : Type} : List (Lit × DataW H) → Nat
  | [] => 0
  | x :: r => uptoBulkEntry x + uptoBulkEntries r
def uptoBulkEntry {H : Type} : Lit × DataW H → Nat
  | (.string bytes, d) => bytes.length + uptoBulk d + 1
  | (_, d) => uptoBulk d + 1
 end
def uptoSmall : (H : Type) → List (DataW H) → Bool := fun _ ds => decide (uptoBulkAll ds ≤ 1048576)
def OpenSpec.upto (s : _root_.Go.ChangeSpec) : _root_.Go.OpenSpec := { _root_.Go.OpenSpec.ofChange s with cond := some uptoSmall }

/-- 'osierlaw7.PartEnds', WHERE WHAT IT READS IS OF BULK AT MOST 1048576: true; the input reads as it did. -/
def partEndsUptoRow : OpenClaim := { program := "ytakgknoldkfekaa", sum := "cc4d5ef2948454717d07e4af9a817a8bc845081e714243382c18528f919c3538", func := "osier/osierlaw7.PartEnds", spec := "partEnds", recurses := true, apart := false, narrowed := true }
def PartEndsUptoSaid : Prop := partEndsUptoRow.holds Try.pinned (OpenSpec.upto partEndsSpec)

/-- 'osierlaw7.PartForms', WHERE WHAT IT READS IS OF BULK AT MOST 1048576: true; the input reads as it did. -/
def partFormsUptoRow : OpenClaim := { program := "ytakgknoldkfekaa", sum := "cc4d5ef2948454717d07e4af9a817a8bc845081e714243382c18528f919c3538", func := "osier/osierlaw7.PartForms", spec := "partForms", recurses := true, apart := false, narrowed := true }
def PartFormsUptoSaid : Prop := partFormsUptoRow.holds Try.pinned (OpenSpec.upto partFormsSpec)

/-- 'osierlaw7.PartFull', WHERE WHAT IT READS IS OF BULK AT MOST 1048576: true; the input reads as it did. -/
def partFullUptoRow : OpenClaim := { program := "ytakgknoldkfekaa", sum := "cc4d5ef2948454717d07e4af9a817a8bc845081e714243382c18528f919c3538", func := "osier/osierlaw7.PartFull", spec := "partFull", recurses := true, apart := false, narrowed := true }
def PartFullUptoSaid : Prop := partFullUptoRow.holds Try.pinned (OpenSpec.upto partFullSpec)

/-- 'osierlaw6.CutFull', WHERE WHAT IT READS IS OF BULK AT MOST 1048576: true; the input reads as it did. -/
def cutFullUptoRow : OpenClaim := { program := "ytakgknoldkfekaa", sum := "cc4d5ef2948454717d07e4af9a817a8bc845081e714243382c18528f919c3538", func := "osier/osierlaw6.CutFull", spec := "cutFull", recurses := true, apart := false, narrowed := true }
def CutFullUptoSaid : Prop := cutFullUptoRow.holds Try.pinned (OpenSpec.upto cutFullSpec)

/-- 'osierlaw6.CutRaw', WHERE WHAT IT READS IS OF BULK AT MOST 1048576: true; the input reads as it did. -/
def cutRawUptoRow : OpenClaim := { program := "ytakgknoldkfekaa", sum := "cc4d5ef2948454717d07e4af9a817a8bc845081e714243382c18528f919c3538", func := "osier/osierlaw6.CutRaw", spec := "cutRaw", recurses := true, apart := false, narrowed := true }
def CutRawUptoSaid : Prop := cutRawUptoRow.holds Try.pinned (OpenSpec.upto cutRawSpec)

/-- 'osierlaw7.PartMiddle', WHERE WHAT IT READS IS OF BULK AT MOST 1048576: true; the input reads as it did. -/
def partMiddleUptoRow : OpenClaim := { program := "ytakgknoldkfekaa", sum := "cc4d5ef2948454717d07e4af9a817a8bc845081e714243382c18528f919c3538", func := "osier/osierlaw7.PartMiddle", spec := "partMiddle", recurses := true, apart := false, narrowed := true }
def PartMiddleUptoSaid : Prop := partMiddleUptoRow.holds Try.pinned (OpenSpec.upto partMiddleSpec)

/-- 'osierlaw5.PutOrder', WHERE WHAT IT READS IS OF BULK AT MOST 1048576: true; the input reads as it did. -/
def putOrderUptoRow : OpenClaim := { program := "ytakgknoldkfekaa", sum := "cc4d5ef2948454717d07e4af9a817a8bc845081e714243382c18528f919c3538", func := "osier/osierlaw5.PutOrder", spec := "putOrder", recurses := true, apart := false, narrowed := true }
def PutOrderUptoSaid : Prop := putOrderUptoRow.holds Try.pinned (OpenSpec.upto putOrderSpec)

/-- 'osierlaw5.PutGets', WHERE WHAT IT READS IS OF BULK AT MOST 1048576: true; the input reads as it did. -/
def putGetsUptoRow : OpenClaim := { program := "ytakgknoldkfekaa", sum := "cc4d5ef2948454717d07e4af9a817a8bc845081e714243382c18528f919c3538", func := "osier/osierlaw5.PutGets", spec := "putGets", recurses := true, apart := false, narrowed := true }
def PutGetsUptoSaid : Prop := putGetsUptoRow.holds Try.pinned (OpenSpec.upto putGetsSpec)

/-- 'osierlaw5.PutFull', WHERE WHAT IT READS IS OF BULK AT MOST 1048576: true; the input reads as it did. -/
def putFullUptoRow : OpenClaim := { program := "ytakgknoldkfekaa", sum := "cc4d5ef2948454717d07e4af9a817a8bc845081e714243382c18528f919c3538", func := "osier/osierlaw5.PutFull", spec := "putFull", recurses := true, apart := false, narrowed := true }
def PutFullUptoSaid : Prop := putFullUptoRow.holds Try.pinned (OpenSpec.upto putFullSpec)

/-- 'osierlaw5.PutForms', WHERE WHAT IT READS IS OF BULK AT MOST 1048576: true; the input reads as it did. -/
def putFormsUptoRow : OpenClaim := { program := "ytakgknoldkfekaa", sum := "cc4d5ef2948454717d07e4af9a817a8bc845081e714243382c18528f919c3538", func := "osier/osierlaw5.PutForms", spec := "putForms", recurses := true, apart := false, narrowed := true }
def PutFormsUptoSaid : Prop := putFormsUptoRow.holds Try.pinned (OpenSpec.upto putFormsSpec)

/-- 'osierlaw6.CutPut', WHERE WHAT IT READS IS OF BULK AT MOST 1048576: true; the input reads as it did. -/
def cutPutUptoRow : OpenClaim := { program := "ytakgknoldkfekaa", sum := "cc4d5ef2948454717d07e4af9a817a8bc845081e714243382c18528f919c3538", func := "osier/osierlaw6.CutPut", spec := "cutPut", recurses := true, apart := false, narrowed := true }
def CutPutUptoSaid : Prop := cutPutUptoRow.holds Try.pinned (OpenSpec.upto cutPutSpec)

end Rows
end Go.Proofs.Ytakgknoldkfekaa
