/-
  No cell of these rows narrows 'for every input' (looked for: loops, veiled, ifaces, maps, wideKeys, modest, calm, conditions, laid).
  DERIVED. THE GIVEN ROWS OF THIS SEAT. 11 by the template 'for every input the law returns true; each argument reads behind the call as it read before'; 0 by the template 'total and deterministic' (their statements: YtabiiggoledipaaTotals.lean).
  GIVEN WITH THE SEED: the statements are not yours to turn. If you find one false, say at which input.
  Laid BY PROGRAM, IN A SANDBOX (cutbox-rows.mjs): the forced cells as the released guide's own fill.sh prints them over the translation c27bda2b155b4f0e… (all of the seat's roots in one cut). By AI agents, Wed Nov 11 2026. No macro, syntax, notation, axiom, sorry.
-/
import Derived.Test.YtabiiggoledipaaChecked
import GoSem.Claim
import GoSem.ClaimJoined
import GoSem.ClaimMapViews
import Derived.JoinedTies
import Derived.KernelRfl
namespace Go.Proofs.Ytabiiggoledipaa
/- THE CELL 'sum', in the pinned program and in every row, IS THE sha256 OF THE DUMP (.gsa) THAT YtabiiggoledipaaProg.lean LOADS. Nothing in Lean hashes anything: it is a label: what it is worth is what the hold of that sum in a sandbox is worth. -/
noncomputable def Try.pinned : Pinned := { name := "ytabiiggoledipaa", sum := "c27bda2b155b4f0ec9851c005b69d5d771bfa8b7f916d5638503c5216f8958f9", checked := Try.checked }
namespace Rows
def none {H : Type} : Left H := { results := [], args := [] }

/-- 'osierlaw9.WalkSteps': WHATEVER THE INPUT: true; the input reads as it did. -/
def walkStepsSpec : ChangeSpec := { name := "walkSteps", fn := fun _ => fun
  | [d] => { results := [.lit (.bool true)], args := [d] }
  | _ => none }
def walkStepsRow : OpenClaim := { program := "ytabiiggoledipaa", sum := "c27bda2b155b4f0ec9851c005b69d5d771bfa8b7f916d5638503c5216f8958f9", func := "osier/osierlaw9.WalkSteps", spec := "walkSteps", unfollowed := true, recurses := true, apart := false }
def WalkStepsSaid : Prop := walkStepsRow.holds Try.pinned (OpenSpec.ofChange walkStepsSpec)

/-- ITS FALSE NEIGHBOUR: 'it returns false'. Refute it at one input. -/
def walkStepsWrong : ChangeSpec := { name := "walkSteps", fn := fun _ => fun
  | [d] => { results := [.lit (.bool false)], args := [d] }
  | _ => none }
def WalkStepsWrongFalsely : Prop := walkStepsRow.holds Try.pinned (OpenSpec.ofChange walkStepsWrong)

/-- 'osierlaw9.WalkParts': WHATEVER THE INPUT: true; the input reads as it did. -/
def walkPartsSpec : ChangeSpec := { name := "walkParts", fn := fun _ => fun
  | [d1, d2, d3, d4] => { results := [.lit (.bool true)], args := [d1, d2, d3, d4] }
  | _ => none }
def walkPartsRow : OpenClaim := { program := "ytabiiggoledipaa", sum := "c27bda2b155b4f0ec9851c005b69d5d771bfa8b7f916d5638503c5216f8958f9", func := "osier/osierlaw9.WalkParts", spec := "walkParts", unfollowed := true, recurses := true, apart := false }
def WalkPartsSaid : Prop := walkPartsRow.holds Try.pinned (OpenSpec.ofChange walkPartsSpec)

/-- ITS FALSE NEIGHBOUR: 'it returns false'. Refute it at one input. -/
def walkPartsWrong : ChangeSpec := { name := "walkParts", fn := fun _ => fun
  | [d1, d2, d3, d4] => { results := [.lit (.bool false)], args := [d1, d2, d3, d4] }
  | _ => none }
def WalkPartsWrongFalsely : Prop := walkPartsRow.holds Try.pinned (OpenSpec.ofChange walkPartsWrong)

/-- 'osierlaw9.WalkOne': WHATEVER THE INPUT: true; the input reads as it did. -/
def walkOneSpec : ChangeSpec := { name := "walkOne", fn := fun _ => fun
  | [d1, d2] => { results := [.lit (.bool true)], args := [d1, d2] }
  | _ => none }
def walkOneRow : OpenClaim := { program := "ytabiiggoledipaa", sum := "c27bda2b155b4f0ec9851c005b69d5d771bfa8b7f916d5638503c5216f8958f9", func := "osier/osierlaw9.WalkOne", spec := "walkOne", unfollowed := true, recurses := true, apart := false }
def WalkOneSaid : Prop := walkOneRow.holds Try.pinned (OpenSpec.ofChange walkOneSpec)

/-- ITS FALSE NEIGHBOUR: 'it returns false'. Refute it at one input. -/
def walkOneWrong : ChangeSpec := { name := "walkOne", fn := fun _ => fun
  | [d1, d2] => { results := [.lit (.bool false)], args := [d1, d2] }
  | _ => none }
def WalkOneWrongFalsely : Prop := walkOneRow.holds Try.pinned (OpenSpec.ofChange walkOneWrong)

/-- 'osierlaw9.WalkForms': WHATEVER THE INPUT: true; the input reads as it did. -/
def walkFormsSpec : ChangeSpec := { name := "walkForms", fn := fun _ => fun
  | [d1, d2, d3] => { results := [.lit (.bool true)], args := [d1, d2, d3] }
  | _ => none }
def walkFormsRow : OpenClaim := { program := "ytabiiggoledipaa", sum := "c27bda2b155b4f0ec9851c005b69d5d771bfa8b7f916d5638503c5216f8958f9", func := "osier/osierlaw9.WalkForms", spec := "walkForms", unfollowed := true, recurses := true, apart := false }
def WalkFormsSaid : Prop := walkFormsRow.holds Try.pinned (OpenSpec.ofChange walkFormsSpec)

/-- ITS FALSE NEIGHBOUR: 'it returns false'. Refute it at one input. -/
def walkFormsWrong : ChangeSpec := { name := "walkForms", fn := fun _ => fun
  | [d1, d2, d3] => { results := [.lit (.bool false)], args := [d1, d2, d3] }
  | _ => none }
def WalkFormsWrongFalsely : Prop := walkFormsRow.holds Try.pinned (OpenSpec.ofChange walkFormsWrong)

/-- 'osierlaw4.LookSteps': WHATEVER THE INPUT: true; the input reads as it did. -/
def lookStepsSpec : ChangeSpec := { name := "lookSteps", fn := fun _ => fun
  | [d1, d2] => { results := [.lit (.bool true)], args := [d1, d2] }
  | _ => none }
def lookStepsRow : OpenClaim := { program := "ytabiiggoledipaa", sum := "c27bda2b155b4f0ec9851c005b69d5d771bfa8b7f916d5638503c5216f8958f9", func := "osier/osierlaw4.LookSteps", spec := "lookSteps", recurses := true, apart := false }
def LookStepsSaid : Prop := lookStepsRow.holds Try.pinned (OpenSpec.ofChange lookStepsSpec)

/-- ITS FALSE NEIGHBOUR: 'it returns false'. Refute it at one input. -/
def lookStepsWrong : ChangeSpec := { name := "lookSteps", fn := fun _ => fun
  | [d1, d2] => { results := [.lit (.bool false)], args := [d1, d2] }
  | _ => none }
def LookStepsWrongFalsely : Prop := lookStepsRow.holds Try.pinned (OpenSpec.ofChange lookStepsWrong)

/-- 'osierlaw4.LookBetween': WHATEVER THE INPUT: true; the input reads as it did. -/
def lookBetweenSpec : ChangeSpec := { name := "lookBetween", fn := fun _ => fun
  | [d1, d2, d3] => { results := [.lit (.bool true)], args := [d1, d2, d3] }
  | _ => none }
def lookBetweenRow : OpenClaim := { program := "ytabiiggoledipaa", sum := "c27bda2b155b4f0ec9851c005b69d5d771bfa8b7f916d5638503c5216f8958f9", func := "osier/osierlaw4.LookBetween", spec := "lookBetween", recurses := true, apart := false }
def LookBetweenSaid : Prop := lookBetweenRow.holds Try.pinned (OpenSpec.ofChange lookBetweenSpec)

/-- ITS FALSE NEIGHBOUR: 'it returns false'. Refute it at one input. -/
def lookBetweenWrong : ChangeSpec := { name := "lookBetween", fn := fun _ => fun
  | [d1, d2, d3] => { results := [.lit (.bool false)], args := [d1, d2, d3] }
  | _ => none }
def LookBetweenWrongFalsely : Prop := lookBetweenRow.holds Try.pinned (OpenSpec.ofChange lookBetweenWrong)

/-- 'osierlaw4.LookAll': WHATEVER THE INPUT: true; the input reads as it did. -/
def lookAllSpec : ChangeSpec := { name := "lookAll", fn := fun _ => fun
  | [d] => { results := [.lit (.bool true)], args := [d] }
  | _ => none }
def lookAllRow : OpenClaim := { program := "ytabiiggoledipaa", sum := "c27bda2b155b4f0ec9851c005b69d5d771bfa8b7f916d5638503c5216f8958f9", func := "osier/osierlaw4.LookAll", spec := "lookAll", recurses := true, apart := false }
def LookAllSaid : Prop := lookAllRow.holds Try.pinned (OpenSpec.ofChange lookAllSpec)

/-- ITS FALSE NEIGHBOUR: 'it returns false'. Refute it at one input. -/
def lookAllWrong : ChangeSpec := { name := "lookAll", fn := fun _ => fun
  | [d] => { results := [.lit (.bool false)], args := [d] }
  | _ => none }
def LookAllWrongFalsely : Prop := lookAllRow.holds Try.pinned (OpenSpec.ofChange lookAllWrong)

/-- 'osierlaw4.LookForms': WHATEVER THE INPUT: true; the input reads as it did. -/
def lookFormsSpec : ChangeSpec := { name := "lookForms", fn := fun _ => fun
  | [d1, d2, d3] => { results := [.lit (.bool true)], args := [d1, d2, d3] }
  | _ => none }
def lookFormsRow : OpenClaim := { program := "ytabiiggoledipaa", sum := "c27bda2b155b4f0ec9851c005b69d5d771bfa8b7f916d5638503c5216f8958f9", func := "osier/osierlaw4.LookForms", spec := "lookForms", recurses := true, apart := false }
def LookFormsSaid : Prop := lookFormsRow.holds Try.pinned (OpenSpec.ofChange lookFormsSpec)

/-- ITS FALSE NEIGHBOUR: 'it returns false'. Refute it at one input. -/
def lookFormsWrong : ChangeSpec := { name := "lookForms", fn := fun _ => fun
  | [d1, d2, d3] => { results := [.lit (.bool false)], args := [d1, d2, d3] }
  | _ => none }
def LookFormsWrongFalsely : Prop := lookFormsRow.holds Try.pinned (OpenSpec.ofChange lookFormsWrong)

/-- 'osierlaw4.LookEnds': WHATEVER THE INPUT: true; the input reads as it did. -/
def lookEndsSpec : ChangeSpec := { name := "lookEnds", fn := fun _ => fun
  | [d] => { results := [.lit (.bool true)], args := [d] }
  | _ => none }
def lookEndsRow : OpenClaim := { program := "ytabiiggoledipaa", sum := "c27bda2b155b4f0ec9851c005b69d5d771bfa8b7f916d5638503c5216f8958f9", func := "osier/osierlaw4.LookEnds", spec := "lookEnds", recurses := true, apart := false }
def LookEndsSaid : Prop := lookEndsRow.holds Try.pinned (OpenSpec.ofChange lookEndsSpec)

/-- ITS FALSE NEIGHBOUR: 'it returns false'. Refute it at one input. -/
def lookEndsWrong : ChangeSpec := { name := "lookEnds", fn := fun _ => fun
  | [d] => { results := [.lit (.bool false)], args := [d] }
  | _ => none }
def LookEndsWrongFalsely : Prop := lookEndsRow.holds Try.pinned (OpenSpec.ofChange lookEndsWrong)

/-- 'osierlaw4.LookRaw': WHATEVER THE INPUT: true; the input reads as it did. -/
def lookRawSpec : ChangeSpec := { name := "lookRaw", fn := fun _ => fun
  | [d1, d2, d3, d4] => { results := [.lit (.bool true)], args := [d1, d2, d3, d4] }
  | _ => none }
def lookRawRow : OpenClaim := { program := "ytabiiggoledipaa", sum := "c27bda2b155b4f0ec9851c005b69d5d771bfa8b7f916d5638503c5216f8958f9", func := "osier/osierlaw4.LookRaw", spec := "lookRaw", recurses := true, apart := false }
def LookRawSaid : Prop := lookRawRow.holds Try.pinned (OpenSpec.ofChange lookRawSpec)

/-- ITS FALSE NEIGHBOUR: 'it returns false'. Refute it at one input. -/
def lookRawWrong : ChangeSpec := { name := "lookRaw", fn := fun _ => fun
  | [d1, d2, d3, d4] => { results := [.lit (.bool false)], args := [d1, d2, d3, d4] }
  | _ => none }
def LookRawWrongFalsely : Prop := lookRawRow.holds Try.pinned (OpenSpec.ofChange lookRawWrong)

/-- 'osierlaw9.WalkLooks': WHATEVER THE INPUT: true; the input reads as it did. -/
def walkLooksSpec : ChangeSpec := { name := "walkLooks", fn := fun _ => fun
  | [d1, d2, d3] => { results := [.lit (.bool true)], args := [d1, d2, d3] }
  | _ => none }
def walkLooksRow : OpenClaim := { program := "ytabiiggoledipaa", sum := "c27bda2b155b4f0ec9851c005b69d5d771bfa8b7f916d5638503c5216f8958f9", func := "osier/osierlaw9.WalkLooks", spec := "walkLooks", unfollowed := true, recurses := true, apart := false }
def WalkLooksSaid : Prop := walkLooksRow.holds Try.pinned (OpenSpec.ofChange walkLooksSpec)

/-- ITS FALSE NEIGHBOUR: 'it returns false'. Refute it at one input. -/
def walkLooksWrong : ChangeSpec := { name := "walkLooks", fn := fun _ => fun
  | [d1, d2, d3] => { results := [.lit (.bool false)], args := [d1, d2, d3] }
  | _ => none }
def WalkLooksWrongFalsely : Prop := walkLooksRow.holds Try.pinned (OpenSpec.ofChange walkLooksWrong)

/- THE SECOND FORM. 'bulk': how many values and letters a reading holds, each counted each time it is reached (what is shared counts as often as it is met; a slice's spare places count too). A statement '..UptoSaid' is the law's where the arguments, and the package variables that the reading takes, are together of bulk at most 1048576: NARROWER than '..Said'. Prove '..Said' where nothing that the law and all that it calls make is longer than what came in: it says more and counts as full. Else prove '..UptoSaid'. A law counts once. -/
mutual
def uptoBulk {H : Type} : DataW H → Nat
  | .lit (.string bytes) => bytes.length + 1
  | .lit _ => 1
  | .nil => 1
  | .ptr d => uptoBulk d + 1
  | .slice elems spare => uptoBulkAll elems + uptoBulkAll spare + 1
  | .agg parts => uptoBulkAll parts + 1
  | .iface _ d => uptoBulk d + 1
  | .map entries => uptoBulkEntries entries + 1
  | .held _ => 1
def uptoBulkAll {H : Type} : List (DataW H) → Nat
  | [] => 0
  | d :: r => uptoBulk d + uptoBulkAll r
def uptoBulkEntries {H : Type} : List (Lit × DataW H) → Nat
  | [] => 0
  | x :: r => uptoBulkEntry x + uptoBulkEntries r
def uptoBulkEntry {H : Type} : Lit × DataW H → Nat
  | (.string bytes, d) => bytes.length + uptoBulk d + 1
  | (_, d) => uptoBulk d + 1
 end
def uptoSmall : (H : Type) → List (DataW H) → Bool := fun _ ds => decide (uptoBulkAll ds ≤ 1048576)
def OpenSpec.upto (s : _root_.Go.ChangeSpec) : _root_.Go.OpenSpec := { _root_.Go.OpenSpec.ofChange s with cond := some uptoSmall }

/-- 'osierlaw9.WalkSteps', WHERE WHAT IT READS IS OF BULK AT MOST 1048576: true; the input reads as it did. -/
def walkStepsUptoRow : OpenClaim := { program := "ytabiiggoledipaa", sum := "c27bda2b155b4f0ec9851c005b69d5d771bfa8b7f916d5638503c5216f8958f9", func := "osier/osierlaw9.WalkSteps", spec := "walkSteps", unfollowed := true, recurses := true, apart := false, narrowed := true }
def WalkStepsUptoSaid : Prop := walkStepsUptoRow.holds Try.pinned (OpenSpec.upto walkStepsSpec)

/-- 'osierlaw9.WalkParts', WHERE WHAT IT READS IS OF BULK AT MOST 1048576: true; the input reads as it did. -/
def walkPartsUptoRow : OpenClaim := { program := "ytabiiggoledipaa", sum := "c27bda2b155b4f0ec9851c005b69d5d771bfa8b7f916d5638503c5216f8958f9", func := "osier/osierlaw9.WalkParts", spec := "walkParts", unfollowed := true, recurses := true, apart := false, narrowed := true }
def WalkPartsUptoSaid : Prop := walkPartsUptoRow.holds Try.pinned (OpenSpec.upto walkPartsSpec)

/-- 'osierlaw9.WalkOne', WHERE WHAT IT READS IS OF BULK AT MOST 1048576: true; the input reads as it did. -/
def walkOneUptoRow : OpenClaim := { program := "ytabiiggoledipaa", sum := "c27bda2b155b4f0ec9851c005b69d5d771bfa8b7f916d5638503c5216f8958f9", func := "osier/osierlaw9.WalkOne", spec := "walkOne", unfollowed := true, recurses := true, apart := false, narrowed := true }
def WalkOneUptoSaid : Prop := walkOneUptoRow.holds Try.pinned (OpenSpec.upto walkOneSpec)

/-- 'osierlaw9.WalkForms', WHERE WHAT IT READS IS OF BULK AT MOST 1048576: true; the input reads as it did. -/
def walkFormsUptoRow : OpenClaim := { program := "ytabiiggoledipaa", sum := "c27bda2b155b4f0ec9851c005b69d5d771bfa8b7f916d5638503c5216f8958f9", func := "osier/osierlaw9.WalkForms", spec := "walkForms", unfollowed := true, recurses := true, apart := false, narrowed := true }
def WalkFormsUptoSaid : Prop := walkFormsUptoRow.holds Try.pinned (OpenSpec.upto walkFormsSpec)

/-- 'osierlaw4.LookSteps', WHERE WHAT IT READS IS OF BULK AT MOST 1048576: true; the input reads as it did. -/
def lookStepsUptoRow : OpenClaim := { program := "ytabiiggoledipaa", sum := "c27bda2b155b4f0ec9851c005b69d5d771bfa8b7f916d5638503c5216f8958f9", func := "osier/osierlaw4.LookSteps", spec := "lookSteps", recurses := true, apart := false, narrowed := true }
def LookStepsUptoSaid : Prop := lookStepsUptoRow.holds Try.pinned (OpenSpec.upto lookStepsSpec)

/-- 'osierlaw4.LookBetween', WHERE WHAT IT READS IS OF BULK AT MOST 1048576: true; the input reads as it did. -/
def lookBetweenUptoRow : OpenClaim := { program := "ytabiiggoledipaa", sum := "c27bda2b155b4f0ec9851c005b69d5d771bfa8b7f916d5638503c5216f8958f9", func := "osier/osierlaw4.LookBetween", spec := "lookBetween", recurses := true, apart := false, narrowed := true }
def LookBetweenUptoSaid : Prop := lookBetweenUptoRow.holds Try.pinned (OpenSpec.upto lookBetweenSpec)

/-- 'osierlaw4.LookAll', WHERE WHAT IT READS IS OF BULK AT MOST 1048576: true; the input reads as it did. -/
def lookAllUptoRow : OpenClaim := { program := "ytabiiggoledipaa", sum := "c27bda2b155b4f0ec9851c005b69d5d771bfa8b7f916d5638503c5216f8958f9", func := "osier/osierlaw4.LookAll", spec := "lookAll", recurses := true, apart := false, narrowed := true }
def LookAllUptoSaid : Prop := lookAllUptoRow.holds Try.pinned (OpenSpec.upto lookAllSpec)

/-- 'osierlaw4.LookForms', WHERE WHAT IT READS IS OF BULK AT MOST 1048576: true; the input reads as it did. -/
def lookFormsUptoRow : OpenClaim := { program := "ytabiiggoledipaa", sum := "c27bda2b155b4f0ec9851c005b69d5d771bfa8b7f916d5638503c5216f8958f9", func := "osier/osierlaw4.LookForms", spec := "lookForms", recurses := true, apart := false, narrowed := true }
def LookFormsUptoSaid : Prop := lookFormsUptoRow.holds Try.pinned (OpenSpec.upto lookFormsSpec)

/-- 'osierlaw4.LookEnds', WHERE WHAT IT READS IS OF BULK AT MOST 1048576: true; the input reads as it did. -/
def lookEndsUptoRow : OpenClaim := { program := "ytabiiggoledipaa", sum := "c27bda2b155b4f0ec9851c005b69d5d771bfa8b7f916d5638503c5216f8958f9", func := "osier/osierlaw4.LookEnds", spec := "lookEnds", recurses := true, apart := false, narrowed := true }
def LookEndsUptoSaid : Prop := lookEndsUptoRow.holds Try.pinned (OpenSpec.upto lookEndsSpec)

/-- 'osierlaw4.LookRaw', WHERE WHAT IT READS IS OF BULK AT MOST 1048576: true; the input reads as it did. -/
def lookRawUptoRow : OpenClaim := { program := "ytabiiggoledipaa", sum := "c27bda2b155b4f0ec9851c005b69d5d771bfa8b7f916d5638503c5216f8958f9", func := "osier/osierlaw4.LookRaw", spec := "lookRaw", recurses := true, apart := false, narrowed := true }
def LookRawUptoSaid : Prop := lookRawUptoRow.holds Try.pinned (OpenSpec.upto lookRawSpec)

/-- 'osierlaw9.WalkLooks', WHERE WHAT IT READS IS OF BULK AT MOST 1048576: true; the input reads as it did. -/
def walkLooksUptoRow : OpenClaim := { program := "ytabiiggoledipaa", sum := "c27bda2b155b4f0ec9851c005b69d5d771bfa8b7f916d5638503c5216f8958f9", func := "osier/osierlaw9.WalkLooks", spec := "walkLooks", unfollowed := true, recurses := true, apart := false, narrowed := true }
def WalkLooksUptoSaid : Prop := walkLooksUptoRow.holds Try.pinned (OpenSpec.upto walkLooksSpec)

end Rows
end Go.Proofs.Ytabiiggoledipaa
