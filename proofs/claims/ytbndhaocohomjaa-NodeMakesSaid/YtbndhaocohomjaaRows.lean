/-
  No cell of these rows narrows 'for every input' (looked for: loops, veiled, ifaces, maps, wideKeys, modest, calm, conditions, laid).
  DERIVED. THE GIVEN ROWS OF THIS SEAT. 4 by the template 'for every input the law returns true; each argument reads behind the call as it read before'; 0 by the template 'total and deterministic' (their statements: YtbndhaocohomjaaTotals.lean).
  GIVEN WITH THE SEED: the statements are not yours to turn. If you find one false, say at which input.
  Laid BY PROGRAM, IN A SANDBOX (cutbox-rows.mjs): the forced cells as the released guide's own fill.sh prints them over the translation c73635b6e3bb1bd5… (all of the seat's roots in one cut). By AI agents, Wed Nov 11 2026. No macro, syntax, notation, axiom, sorry.
-/
import Derived.Test.YtbndhaocohomjaaChecked
import GoSem.Claim
import GoSem.ClaimJoined
import GoSem.ClaimMapViews
import Derived.JoinedTies
import Derived.KernelRfl
namespace Go.Proofs.Ytbndhaocohomjaa
/- THE CELL 'sum', in the pinned program and in every row, IS THE sha256 OF THE DUMP (.gsa) THAT YtbndhaocohomjaaProg.lean LOADS. Nothing in Lean hashes anything: it is a label: what it is worth is what the hold of that sum in a sandbox is worth. -/
noncomputable def Try.pinned : Pinned := { name := "ytbndhaocohomjaa", sum := "c73635b6e3bb1bd5c0a10be6a463d6fd743481032094136d3c2e18120b5ff868", checked := Try.checked }
namespace Rows
def none {H : Type} : Left H := { results := [], args := [] }

/-- 'osierlaw3.NodeMakes': WHATEVER THE INPUT: true; the input reads as it did. -/
def nodeMakesSpec : ChangeSpec := { name := "nodeMakes", fn := fun _ => fun
  | [d1, d2] => { results := [.lit (.bool true)], args := [d1, d2] }
  | _ => none }
def nodeMakesRow : OpenClaim := { program := "ytbndhaocohomjaa", sum := "c73635b6e3bb1bd5c0a10be6a463d6fd743481032094136d3c2e18120b5ff868", func := "osier/osierlaw3.NodeMakes", spec := "nodeMakes", apart := false }
def NodeMakesSaid : Prop := nodeMakesRow.holds Try.pinned (OpenSpec.ofChange nodeMakesSpec)

/-- ITS FALSE NEIGHBOUR: 'it returns false'. Refute it at one input. -/
def nodeMakesWrong : ChangeSpec := { name := "nodeMakes", fn := fun _ => fun
  | [d1, d2] => { results := [.lit (.bool false)], args := [d1, d2] }
  | _ => none }
def NodeMakesWrongFalsely : Prop := nodeMakesRow.holds Try.pinned (OpenSpec.ofChange nodeMakesWrong)

/-- 'osierlaw3.NodeRaw': WHATEVER THE INPUT: true; the input reads as it did. -/
def nodeRawSpec : ChangeSpec := { name := "nodeRaw", fn := fun _ => fun
  | [d1, d2, d3, d4] => { results := [.lit (.bool true)], args := [d1, d2, d3, d4] }
  | _ => none }
def nodeRawRow : OpenClaim := { program := "ytbndhaocohomjaa", sum := "c73635b6e3bb1bd5c0a10be6a463d6fd743481032094136d3c2e18120b5ff868", func := "osier/osierlaw3.NodeRaw", spec := "nodeRaw", apart := false }
def NodeRawSaid : Prop := nodeRawRow.holds Try.pinned (OpenSpec.ofChange nodeRawSpec)

/-- ITS FALSE NEIGHBOUR: 'it returns false'. Refute it at one input. -/
def nodeRawWrong : ChangeSpec := { name := "nodeRaw", fn := fun _ => fun
  | [d1, d2, d3, d4] => { results := [.lit (.bool false)], args := [d1, d2, d3, d4] }
  | _ => none }
def NodeRawWrongFalsely : Prop := nodeRawRow.holds Try.pinned (OpenSpec.ofChange nodeRawWrong)

/-- 'osierlaw2.ArenaPlays': WHATEVER THE INPUT: true; the input reads as it did. -/
def arenaPlaysSpec : ChangeSpec := { name := "arenaPlays", fn := fun _ => fun
  | [d1, d2] => { results := [.lit (.bool true)], args := [d1, d2] }
  | _ => none }
def arenaPlaysRow : OpenClaim := { program := "ytbndhaocohomjaa", sum := "c73635b6e3bb1bd5c0a10be6a463d6fd743481032094136d3c2e18120b5ff868", func := "osier/osierlaw2.ArenaPlays", spec := "arenaPlays", apart := false }
def ArenaPlaysSaid : Prop := arenaPlaysRow.holds Try.pinned (OpenSpec.ofChange arenaPlaysSpec)

/-- ITS FALSE NEIGHBOUR: 'it returns false'. Refute it at one input. -/
def arenaPlaysWrong : ChangeSpec := { name := "arenaPlays", fn := fun _ => fun
  | [d1, d2] => { results := [.lit (.bool false)], args := [d1, d2] }
  | _ => none }
def ArenaPlaysWrongFalsely : Prop := arenaPlaysRow.holds Try.pinned (OpenSpec.ofChange arenaPlaysWrong)

/-- 'osierlaw2.ArenaNew': WHATEVER THE INPUT: true; the input reads as it did. -/
def arenaNewSpec : ChangeSpec := { name := "arenaNew", fn := fun _ => fun
  | [d1, d2, d3] => { results := [.lit (.bool true)], args := [d1, d2, d3] }
  | _ => none }
def arenaNewRow : OpenClaim := { program := "ytbndhaocohomjaa", sum := "c73635b6e3bb1bd5c0a10be6a463d6fd743481032094136d3c2e18120b5ff868", func := "osier/osierlaw2.ArenaNew", spec := "arenaNew", apart := false }
def ArenaNewSaid : Prop := arenaNewRow.holds Try.pinned (OpenSpec.ofChange arenaNewSpec)

/-- ITS FALSE NEIGHBOUR: 'it returns false'. Refute it at one input. -/
def arenaNewWrong : ChangeSpec := { name := "arenaNew", fn := fun _ => fun
  | [d1, d2, d3] => { results := [.lit (.bool false)], args := [d1, d2, d3] }
  | _ => none }
def ArenaNewWrongFalsely : Prop := arenaNewRow.holds Try.pinned (OpenSpec.ofChange arenaNewWrong)

/- THE SECOND FORM. 'bulk': how many values and letters a reading holds, each counted each time it is reached (what is shared counts as often as it is met; a slice's spare places count too). A statement '..UptoSaid' is the law's where the arguments, and the package variables that the reading takes, are together of bulk at most 1048576: NARROWER than '..Said'. Prove '..Said' where nothing that the law and all that it calls make is longer than what came in: it says more and counts as full. Else prove '..UptoSaid'. A law counts once. -/
mutual
def uptoBulk {H : Type} : DataW H → Nat
  | .lit (.string bytes) => bytes.length + 1
  | .lit _ => 1
  | .nil => 1
  | .ptr d => uptoBulk d + 1
  | .slice elems spare => uptoBulkAll elems + uptoBulkAll spare + 1
  | .agg parts => uptoBulkAll parts + 1
  | .iface _ d => uptoBulk d + 1
  | .map entries => uptoBulkEntries entries + 1
  | .held _ => 1
def uptoBulkAll {H : Type} : List (DataW H) → Nat
  | [] => 0
  | d :: r => uptoBulk d + uptoBulkAll r
def uptoBulkEntries {H : Type} : List (Lit × DataW H) → Nat
  | [] => 0
  | x :: r => uptoBulkEntry x + uptoBulkEntries r
def uptoBulkEntry {H : Type} : Lit × DataW H → Nat
  | (.string bytes, d) => bytes.length + uptoBulk d + 1
  | (_, d) => uptoBulk d + 1
 end
def uptoSmall : (H : Type) → List (DataW H) → Bool := fun _ ds => decide (uptoBulkAll ds ≤ 1048576)
def OpenSpec.upto (s : _root_.Go.ChangeSpec) : _root_.Go.OpenSpec := { _root_.Go.OpenSpec.ofChange s with cond := some uptoSmall }

/-- 'osierlaw3.NodeMakes', WHERE WHAT IT READS IS OF BULK AT MOST 1048576: true; the input reads as it did. -/
def nodeMakesUptoRow : OpenClaim := { program := "ytbndhaocohomjaa", sum := "c73635b6e3bb1bd5c0a10be6a463d6fd743481032094136d3c2e18120b5ff868", func := "osier/osierlaw3.NodeMakes", spec := "nodeMakes", apart := false, narrowed := true }
def NodeMakesUptoSaid : Prop := nodeMakesUptoRow.holds Try.pinned (OpenSpec.upto nodeMakesSpec)

/-- 'osierlaw3.NodeRaw', WHERE WHAT IT READS IS OF BULK AT MOST 1048576: true; the input reads as it did. -/
def nodeRawUptoRow : OpenClaim := { program := "ytbndhaocohomjaa", sum := "c73635b6e3bb1bd5c0a10be6a463d6fd743481032094136d3c2e18120b5ff868", func := "osier/osierlaw3.NodeRaw", spec := "nodeRaw", apart := false, narrowed := true }
def NodeRawUptoSaid : Prop := nodeRawUptoRow.holds Try.pinned (OpenSpec.upto nodeRawSpec)

/-- 'osierlaw2.ArenaPlays', WHERE WHAT IT READS IS OF BULK AT MOST 1048576: true; the input reads as it did. -/
def arenaPlaysUptoRow : OpenClaim := { program := "ytbndhaocohomjaa", sum := "c73635b6e3bb1bd5c0a10be6a463d6fd743481032094136d3c2e18120b5ff868", func := "osier/osierlaw2.ArenaPlays", spec := "arenaPlays", apart := false, narrowed := true }
def ArenaPlaysUptoSaid : Prop := arenaPlaysUptoRow.holds Try.pinned (OpenSpec.upto arenaPlaysSpec)

/-- 'osierlaw2.ArenaNew', WHERE WHAT IT READS IS OF BULK AT MOST 1048576: true; the input reads as it did. -/
def arenaNewUptoRow : OpenClaim := { program := "ytbndhaocohomjaa", sum := "c73635b6e3bb1bd5c0a10be6a463d6fd743481032094136d3c2e18120b5ff868", func := "osier/osierlaw2.ArenaNew", spec := "arenaNew", apart := false, narrowed := true }
def ArenaNewUptoSaid : Prop := arenaNewUptoRow.holds Try.pinned (OpenSpec.upto arenaNewSpec)

end Rows
end Go.Proofs.Ytbndhaocohomjaa
