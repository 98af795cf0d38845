/-
  No cell of these rows narrows 'for every input' (looked for: loops, veiled, ifaces, maps, wideKeys, modest, calm, conditions, laid).
  DERIVED. THE GIVEN ROWS OF THIS SEAT. 9 by the template 'for every input the law returns true; each argument reads behind the call as it read before'; 0 by the template 'total and deterministic' (their statements: YtkcfkanfdbejiaaTotals.lean).
  GIVEN WITH THE SEED: the statements are not yours to turn. If you find one false, say at which input.
  Laid BY PROGRAM, IN A SANDBOX (cutbox-rows.mjs): the forced cells as the released guide's own fill.sh prints them over the translation 2d0fd0ce54b0a6f7… (all of the seat's roots in one cut). By AI agents, Wed Nov 11 2026. No macro, syntax, notation, axiom, sorry.
-/
import Derived.Test.YtkcfkanfdbejiaaChecked
import GoSem.Claim
import GoSem.ClaimJoined
import GoSem.ClaimMapViews
import Derived.JoinedTies
import Derived.KernelRfl
namespace Go.Proofs.Ytkcfkanfdbejiaa
/- THE CELL 'sum', in the pinned program and in every row, IS THE sha256 OF THE DUMP (.gsa) THAT YtkcfkanfdbejiaaProg.lean LOADS. Nothing in Lean hashes anything: it is a label: what it is worth is what the hold of that sum in a sandbox is worth. -/
noncomputable def Try.pinned : Pinned := { name := "ytkcfkanfdbejiaa", sum := "2d0fd0ce54b0a6f7c12c1a6a8346551b2017b412971cbf62dac085d6db914f59", checked := Try.checked }
namespace Rows
def none {H : Type} : Left H := { results := [], args := [] }

/-- 'osierlaw10.SoundOne': WHATEVER THE INPUT: true; the input reads as it did. -/
def soundOneSpec : ChangeSpec := { name := "soundOne", fn := fun _ => fun
  | [d1, d2, d3] => { results := [.lit (.bool true)], args := [d1, d2, d3] }
  | _ => none }
def soundOneRow : OpenClaim := { program := "ytkcfkanfdbejiaa", sum := "2d0fd0ce54b0a6f7c12c1a6a8346551b2017b412971cbf62dac085d6db914f59", func := "osier/osierlaw10.SoundOne", spec := "soundOne", recurses := true, plainKeys := false, apart := false }
def SoundOneSaid : Prop := soundOneRow.holds Try.pinned (OpenSpec.ofChange soundOneSpec)

/-- ITS FALSE NEIGHBOUR: 'it returns false'. Refute it at one input. -/
def soundOneWrong : ChangeSpec := { name := "soundOne", fn := fun _ => fun
  | [d1, d2, d3] => { results := [.lit (.bool false)], args := [d1, d2, d3] }
  | _ => none }
def SoundOneWrongFalsely : Prop := soundOneRow.holds Try.pinned (OpenSpec.ofChange soundOneWrong)

/-- 'osierlaw10.SoundTurned': WHATEVER THE INPUT: true; the input reads as it did. -/
def soundTurnedSpec : ChangeSpec := { name := "soundTurned", fn := fun _ => fun
  | [d1, d2] => { results := [.lit (.bool true)], args := [d1, d2] }
  | _ => none }
def soundTurnedRow : OpenClaim := { program := "ytkcfkanfdbejiaa", sum := "2d0fd0ce54b0a6f7c12c1a6a8346551b2017b412971cbf62dac085d6db914f59", func := "osier/osierlaw10.SoundTurned", spec := "soundTurned", recurses := true, plainKeys := false, apart := false }
def SoundTurnedSaid : Prop := soundTurnedRow.holds Try.pinned (OpenSpec.ofChange soundTurnedSpec)

/-- ITS FALSE NEIGHBOUR: 'it returns false'. Refute it at one input. -/
def soundTurnedWrong : ChangeSpec := { name := "soundTurned", fn := fun _ => fun
  | [d1, d2] => { results := [.lit (.bool false)], args := [d1, d2] }
  | _ => none }
def SoundTurnedWrongFalsely : Prop := soundTurnedRow.holds Try.pinned (OpenSpec.ofChange soundTurnedWrong)

/-- 'osierlaw10.SoundNone': WHATEVER THE INPUT: true; the input reads as it did. -/
def soundNoneSpec : ChangeSpec := { name := "soundNone", fn := fun _ => fun
  | [d1, d2, d3] => { results := [.lit (.bool true)], args := [d1, d2, d3] }
  | _ => none }
def soundNoneRow : OpenClaim := { program := "ytkcfkanfdbejiaa", sum := "2d0fd0ce54b0a6f7c12c1a6a8346551b2017b412971cbf62dac085d6db914f59", func := "osier/osierlaw10.SoundNone", spec := "soundNone", recurses := true, plainKeys := false, apart := false }
def SoundNoneSaid : Prop := soundNoneRow.holds Try.pinned (OpenSpec.ofChange soundNoneSpec)

/-- ITS FALSE NEIGHBOUR: 'it returns false'. Refute it at one input. -/
def soundNoneWrong : ChangeSpec := { name := "soundNone", fn := fun _ => fun
  | [d1, d2, d3] => { results := [.lit (.bool false)], args := [d1, d2, d3] }
  | _ => none }
def SoundNoneWrongFalsely : Prop := soundNoneRow.holds Try.pinned (OpenSpec.ofChange soundNoneWrong)

/-- 'osierlaw8.JoinFull': WHATEVER THE INPUT: true; the input reads as it did. -/
def joinFullSpec : ChangeSpec := { name := "joinFull", fn := fun _ => fun
  | [d1, d2, d3] => { results := [.lit (.bool true)], args := [d1, d2, d3] }
  | _ => none }
def joinFullRow : OpenClaim := { program := "ytkcfkanfdbejiaa", sum := "2d0fd0ce54b0a6f7c12c1a6a8346551b2017b412971cbf62dac085d6db914f59", func := "osier/osierlaw8.JoinFull", spec := "joinFull", recurses := true, plainKeys := false, apart := false }
def JoinFullSaid : Prop := joinFullRow.holds Try.pinned (OpenSpec.ofChange joinFullSpec)

/-- ITS FALSE NEIGHBOUR: 'it returns false'. Refute it at one input. -/
def joinFullWrong : ChangeSpec := { name := "joinFull", fn := fun _ => fun
  | [d1, d2, d3] => { results := [.lit (.bool false)], args := [d1, d2, d3] }
  | _ => none }
def JoinFullWrongFalsely : Prop := joinFullRow.holds Try.pinned (OpenSpec.ofChange joinFullWrong)

/-- 'osierlaw8.JoinThree': WHATEVER THE INPUT: true; the input reads as it did. -/
def joinThreeSpec : ChangeSpec := { name := "joinThree", fn := fun _ => fun
  | [d1, d2, d3] => { results := [.lit (.bool true)], args := [d1, d2, d3] }
  | _ => none }
def joinThreeRow : OpenClaim := { program := "ytkcfkanfdbejiaa", sum := "2d0fd0ce54b0a6f7c12c1a6a8346551b2017b412971cbf62dac085d6db914f59", func := "osier/osierlaw8.JoinThree", spec := "joinThree", recurses := true, plainKeys := false, apart := false }
def JoinThreeSaid : Prop := joinThreeRow.holds Try.pinned (OpenSpec.ofChange joinThreeSpec)

/-- ITS FALSE NEIGHBOUR: 'it returns false'. Refute it at one input. -/
def joinThreeWrong : ChangeSpec := { name := "joinThree", fn := fun _ => fun
  | [d1, d2, d3] => { results := [.lit (.bool false)], args := [d1, d2, d3] }
  | _ => none }
def JoinThreeWrongFalsely : Prop := joinThreeRow.holds Try.pinned (OpenSpec.ofChange joinThreeWrong)

/-- 'osierlaw8.JoinForms': WHATEVER THE INPUT: true; the input reads as it did. -/
def joinFormsSpec : ChangeSpec := { name := "joinForms", fn := fun _ => fun
  | [d1, d2] => { results := [.lit (.bool true)], args := [d1, d2] }
  | _ => none }
def joinFormsRow : OpenClaim := { program := "ytkcfkanfdbejiaa", sum := "2d0fd0ce54b0a6f7c12c1a6a8346551b2017b412971cbf62dac085d6db914f59", func := "osier/osierlaw8.JoinForms", spec := "joinForms", recurses := true, plainKeys := false, apart := false }
def JoinFormsSaid : Prop := joinFormsRow.holds Try.pinned (OpenSpec.ofChange joinFormsSpec)

/-- ITS FALSE NEIGHBOUR: 'it returns false'. Refute it at one input. -/
def joinFormsWrong : ChangeSpec := { name := "joinForms", fn := fun _ => fun
  | [d1, d2] => { results := [.lit (.bool false)], args := [d1, d2] }
  | _ => none }
def JoinFormsWrongFalsely : Prop := joinFormsRow.holds Try.pinned (OpenSpec.ofChange joinFormsWrong)

/-- 'osierlaw8.JoinNothing': WHATEVER THE INPUT: true; the input reads as it did. -/
def joinNothingSpec : ChangeSpec := { name := "joinNothing", fn := fun _ => fun
  | [d] => { results := [.lit (.bool true)], args := [d] }
  | _ => none }
def joinNothingRow : OpenClaim := { program := "ytkcfkanfdbejiaa", sum := "2d0fd0ce54b0a6f7c12c1a6a8346551b2017b412971cbf62dac085d6db914f59", func := "osier/osierlaw8.JoinNothing", spec := "joinNothing", recurses := true, plainKeys := false, apart := false }
def JoinNothingSaid : Prop := joinNothingRow.holds Try.pinned (OpenSpec.ofChange joinNothingSpec)

/-- ITS FALSE NEIGHBOUR: 'it returns false'. Refute it at one input. -/
def joinNothingWrong : ChangeSpec := { name := "joinNothing", fn := fun _ => fun
  | [d] => { results := [.lit (.bool false)], args := [d] }
  | _ => none }
def JoinNothingWrongFalsely : Prop := joinNothingRow.holds Try.pinned (OpenSpec.ofChange joinNothingWrong)

/-- 'osierlaw8.JoinParts': WHATEVER THE INPUT: true; the input reads as it did. -/
def joinPartsSpec : ChangeSpec := { name := "joinParts", fn := fun _ => fun
  | [d1, d2] => { results := [.lit (.bool true)], args := [d1, d2] }
  | _ => none }
def joinPartsRow : OpenClaim := { program := "ytkcfkanfdbejiaa", sum := "2d0fd0ce54b0a6f7c12c1a6a8346551b2017b412971cbf62dac085d6db914f59", func := "osier/osierlaw8.JoinParts", spec := "joinParts", recurses := true, plainKeys := false, apart := false }
def JoinPartsSaid : Prop := joinPartsRow.holds Try.pinned (OpenSpec.ofChange joinPartsSpec)

/-- ITS FALSE NEIGHBOUR: 'it returns false'. Refute it at one input. -/
def joinPartsWrong : ChangeSpec := { name := "joinParts", fn := fun _ => fun
  | [d1, d2] => { results := [.lit (.bool false)], args := [d1, d2] }
  | _ => none }
def JoinPartsWrongFalsely : Prop := joinPartsRow.holds Try.pinned (OpenSpec.ofChange joinPartsWrong)

/-- 'osierlaw10.SoundAlways': WHATEVER THE INPUT: true; the input reads as it did. -/
def soundAlwaysSpec : ChangeSpec := { name := "soundAlways", fn := fun _ => fun
  | [d1, d2] => { results := [.lit (.bool true)], args := [d1, d2] }
  | _ => none }
def soundAlwaysRow : OpenClaim := { program := "ytkcfkanfdbejiaa", sum := "2d0fd0ce54b0a6f7c12c1a6a8346551b2017b412971cbf62dac085d6db914f59", func := "osier/osierlaw10.SoundAlways", spec := "soundAlways", recurses := true, plainKeys := false, apart := false }
def SoundAlwaysSaid : Prop := soundAlwaysRow.holds Try.pinned (OpenSpec.ofChange soundAlwaysSpec)

/-- ITS FALSE NEIGHBOUR: 'it returns false'. Refute it at one input. -/
def soundAlwaysWrong : ChangeSpec := { name := "soundAlways", fn := fun _ => fun
  | [d1, d2] => { results := [.lit (.bool false)], args := [d1, d2] }
  | _ => none }
def SoundAlwaysWrongFalsely : Prop := soundAlwaysRow.holds Try.pinned (OpenSpec.ofChange soundAlwaysWrong)

/- THE SECOND FORM. 'bulk': how many values and letters a reading holds, each counted each time it is reached (what is shared counts as often as it is met; a slice's spare places count too). A statement '..UptoSaid' is the law's where the arguments, and the package variables that the reading takes, are together of bulk at most 1048576: NARROWER than '..Said'. Prove '..Said' where nothing that the law and all that it calls make is longer than what came in: it says more and counts as full. Else prove '..UptoSaid'. A law counts once. -/
mutual
def uptoBulk {H : Type} : DataW H → Nat
  | .lit (.string bytes) => bytes.length + 1
  | .lit _ => 1
  | .nil => 1
  | .ptr d => uptoBulk d + 1
  | .slice elems spare => uptoBulkAll elems + uptoBulkAll spare + 1
  | .agg parts => uptoBulkAll parts + 1
  | .iface _ d => uptoBulk d + 1
  | .map entries => uptoBulkEntries entries + 1
  | .held _ => 1
def uptoBulkAll {H : Type} : List (DataW H) → Nat
  | [] => 0
  | d :: r => uptoBulk d + uptoBulkAll r
def uptoBulkEntries {H : Type} : List (Lit × DataW H) → Nat
  | [] => 0
  | x :: r => uptoBulkEntry x + uptoBulkEntries r
def uptoBulkEntry {H : Type} : Lit × DataW H → Nat
  | (.string bytes, d) => bytes.length + uptoBulk d + 1
  | (_, d) => uptoBulk d + 1
 end
def uptoSmall : (H : Type) → List (DataW H) → Bool := fun _ ds => decide (uptoBulkAll ds ≤ 1048576)
def OpenSpec.upto (s : _root_.Go.ChangeSpec) : _root_.Go.OpenSpec := { _root_.Go.OpenSpec.ofChange s with cond := some uptoSmall }

/-- 'osierlaw10.SoundOne', WHERE WHAT IT READS IS OF BULK AT MOST 1048576: true; the input reads as it did. -/
def soundOneUptoRow : OpenClaim := { program := "ytkcfkanfdbejiaa", sum := "2d0fd0ce54b0a6f7c12c1a6a8346551b2017b412971cbf62dac085d6db914f59", func := "osier/osierlaw10.SoundOne", spec := "soundOne", recurses := true, plainKeys := false, apart := false, narrowed := true }
def SoundOneUptoSaid : Prop := soundOneUptoRow.holds Try.pinned (OpenSpec.upto soundOneSpec)

/-- 'osierlaw10.SoundTurned', WHERE WHAT IT READS IS OF BULK AT MOST 1048576: true; the input reads as it did. -/
def soundTurnedUptoRow : OpenClaim := { program := "ytkcfkanfdbejiaa", sum := "2d0fd0ce54b0a6f7c12c1a6a8346551b2017b412971cbf62dac085d6db914f59", func := "osier/osierlaw10.SoundTurned", spec := "soundTurned", recurses := true, plainKeys := false, apart := false, narrowed := true }
def SoundTurnedUptoSaid : Prop := soundTurnedUptoRow.holds Try.pinned (OpenSpec.upto soundTurnedSpec)

/-- 'osierlaw10.SoundNone', WHERE WHAT IT READS IS OF BULK AT MOST 1048576: true; the input reads as it did. -/
def soundNoneUptoRow : OpenClaim := { program := "ytkcfkanfdbejiaa", sum := "2d0fd0ce54b0a6f7c12c1a6a8346551b2017b412971cbf62dac085d6db914f59", func := "osier/osierlaw10.SoundNone", spec := "soundNone", recurses := true, plainKeys := false, apart := false, narrowed := true }
def SoundNoneUptoSaid : Prop := soundNoneUptoRow.holds Try.pinned (OpenSpec.upto soundNoneSpec)

/-- 'osierlaw8.JoinFull', WHERE WHAT IT READS IS OF BULK AT MOST 1048576: true; the input reads as it did. -/
def joinFullUptoRow : OpenClaim := { program := "ytkcfkanfdbejiaa", sum := "2d0fd0ce54b0a6f7c12c1a6a8346551b2017b412971cbf62dac085d6db914f59", func := "osier/osierlaw8.JoinFull", spec := "joinFull", recurses := true, plainKeys := false, apart := false, narrowed := true }
def JoinFullUptoSaid : Prop := joinFullUptoRow.holds Try.pinned (OpenSpec.upto joinFullSpec)

/-- 'osierlaw8.JoinThree', WHERE WHAT IT READS IS OF BULK AT MOST 1048576: true; the input reads as it did. -/
def joinThreeUptoRow : OpenClaim := { program := "ytkcfkanfdbejiaa", sum := "2d0fd0ce54b0a6f7c12c1a6a8346551b2017b412971cbf62dac085d6db914f59", func := "osier/osierlaw8.JoinThree", spec := "joinThree", recurses := true, plainKeys := false, apart := false, narrowed := true }
def JoinThreeUptoSaid : Prop := joinThreeUptoRow.holds Try.pinned (OpenSpec.upto joinThreeSpec)

/-- 'osierlaw8.JoinForms', WHERE WHAT IT READS IS OF BULK AT MOST 1048576: true; the input reads as it did. -/
def joinFormsUptoRow : OpenClaim := { program := "ytkcfkanfdbejiaa", sum := "2d0fd0ce54b0a6f7c12c1a6a8346551b2017b412971cbf62dac085d6db914f59", func := "osier/osierlaw8.JoinForms", spec := "joinForms", recurses := true, plainKeys := false, apart := false, narrowed := true }
def JoinFormsUptoSaid : Prop := joinFormsUptoRow.holds Try.pinned (OpenSpec.upto joinFormsSpec)

/-- 'osierlaw8.JoinNothing', WHERE WHAT IT READS IS OF BULK AT MOST 1048576: true; the input reads as it did. -/
def joinNothingUptoRow : OpenClaim := { program := "ytkcfkanfdbejiaa", sum := "2d0fd0ce54b0a6f7c12c1a6a8346551b2017b412971cbf62dac085d6db914f59", func := "osier/osierlaw8.JoinNothing", spec := "joinNothing", recurses := true, plainKeys := false, apart := false, narrowed := true }
def JoinNothingUptoSaid : Prop := joinNothingUptoRow.holds Try.pinned (OpenSpec.upto joinNothingSpec)

/-- 'osierlaw8.JoinParts', WHERE WHAT IT READS IS OF BULK AT MOST 1048576: true; the input reads as it did. -/
def joinPartsUptoRow : OpenClaim := { program := "ytkcfkanfdbejiaa", sum := "2d0fd0ce54b0a6f7c12c1a6a8346551b2017b412971cbf62dac085d6db914f59", func := "osier/osierlaw8.JoinParts", spec := "joinParts", recurses := true, plainKeys := false, apart := false, narrowed := true }
def JoinPartsUptoSaid : Prop := joinPartsUptoRow.holds Try.pinned (OpenSpec.upto joinPartsSpec)

/-- 'osierlaw10.SoundAlways', WHERE WHAT IT READS IS OF BULK AT MOST 1048576: true; the input reads as it did. -/
def soundAlwaysUptoRow : OpenClaim := { program := "ytkcfkanfdbejiaa", sum := "2d0fd0ce54b0a6f7c12c1a6a8346551b2017b412971cbf62dac085d6db914f59", func := "osier/osierlaw10.SoundAlways", spec := "soundAlways", recurses := true, plainKeys := false, apart := false, narrowed := true }
def SoundAlwaysUptoSaid : Prop := soundAlwaysUptoRow.holds Try.pinned (OpenSpec.upto soundAlwaysSpec)

end Rows
end Go.Proofs.Ytkcfkanfdbejiaa
