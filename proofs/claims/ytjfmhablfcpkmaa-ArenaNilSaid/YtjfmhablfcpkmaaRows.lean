/-
  No cell of these rows narrows 'for every input' (looked for: loops, veiled, ifaces, maps, wideKeys, modest, calm, conditions, laid).
  DERIVED. THE GIVEN ROWS OF THIS SEAT. 15 by the template 'for every input the law returns true; each argument reads behind the call as it read before'; 0 by the template 'total and deterministic' (their statements: YtjfmhablfcpkmaaTotals.lean).
  GIVEN WITH THE SEED: the statements are not yours to turn. If you find one false, say at which input.
  Laid BY PROGRAM, IN A SANDBOX (cutbox-rows.mjs): the forced cells as the released guide's own fill.sh prints them over the translation 85a7eb00fab5ffd9… (all of the seat's roots in one cut). By AI agents, Wed Nov 11 2026. No macro, syntax, notation, axiom, sorry.
-/
import Derived.Test.YtjfmhablfcpkmaaChecked
import GoSem.Claim
import GoSem.ClaimJoined
import GoSem.ClaimMapViews
import Derived.JoinedTies
import Derived.KernelRfl
namespace Go.Proofs.Ytjfmhablfcpkmaa
/- THE CELL 'sum', in the pinned program and in every row, IS THE sha256 OF THE DUMP (.gsa) THAT YtjfmhablfcpkmaaProg.lean LOADS. Nothing in Lean hashes anything: it is a label: what it is worth is what the hold of that sum in a sandbox is worth. -/
noncomputable def Try.pinned : Pinned := { name := "ytjfmhablfcpkmaa", sum := "85a7eb00fab5ffd9e0cf774c472e7fe4694ddf4dd62cda5ce2f74f6548ea927b", checked := Try.checked }
namespace Rows
def none {H : Type} : Left H := { results := [], args := [] }

/-- 'osierlaw1.MixForms': WHATEVER THE INPUT: true; the input reads as it did. -/
def mixFormsSpec : ChangeSpec := { name := "mixForms", fn := fun _ => fun
  | [d1, d2] => { results := [.lit (.bool true)], args := [d1, d2] }
  | _ => none }
def mixFormsRow : OpenClaim := { program := "ytjfmhablfcpkmaa", sum := "85a7eb00fab5ffd9e0cf774c472e7fe4694ddf4dd62cda5ce2f74f6548ea927b", func := "osier/osierlaw1.MixForms", spec := "mixForms", apart := false }
def MixFormsSaid : Prop := mixFormsRow.holds Try.pinned (OpenSpec.ofChange mixFormsSpec)

/-- ITS FALSE NEIGHBOUR: 'it returns false'. Refute it at one input. -/
def mixFormsWrong : ChangeSpec := { name := "mixForms", fn := fun _ => fun
  | [d1, d2] => { results := [.lit (.bool false)], args := [d1, d2] }
  | _ => none }
def MixFormsWrongFalsely : Prop := mixFormsRow.holds Try.pinned (OpenSpec.ofChange mixFormsWrong)

/-- 'osierlaw1.MixOne': WHATEVER THE INPUT: true; the input reads as it did. -/
def mixOneSpec : ChangeSpec := { name := "mixOne", fn := fun _ => fun
  | [d1, d2, d3] => { results := [.lit (.bool true)], args := [d1, d2, d3] }
  | _ => none }
def mixOneRow : OpenClaim := { program := "ytjfmhablfcpkmaa", sum := "85a7eb00fab5ffd9e0cf774c472e7fe4694ddf4dd62cda5ce2f74f6548ea927b", func := "osier/osierlaw1.MixOne", spec := "mixOne", apart := false }
def MixOneSaid : Prop := mixOneRow.holds Try.pinned (OpenSpec.ofChange mixOneSpec)

/-- ITS FALSE NEIGHBOUR: 'it returns false'. Refute it at one input. -/
def mixOneWrong : ChangeSpec := { name := "mixOne", fn := fun _ => fun
  | [d1, d2, d3] => { results := [.lit (.bool false)], args := [d1, d2, d3] }
  | _ => none }
def MixOneWrongFalsely : Prop := mixOneRow.holds Try.pinned (OpenSpec.ofChange mixOneWrong)

/-- 'osierlaw1.MixTop': WHATEVER THE INPUT: true; the input reads as it did. -/
def mixTopSpec : ChangeSpec := { name := "mixTop", fn := fun _ => fun
  | [d] => { results := [.lit (.bool true)], args := [d] }
  | _ => none }
def mixTopRow : OpenClaim := { program := "ytjfmhablfcpkmaa", sum := "85a7eb00fab5ffd9e0cf774c472e7fe4694ddf4dd62cda5ce2f74f6548ea927b", func := "osier/osierlaw1.MixTop", spec := "mixTop", apart := false }
def MixTopSaid : Prop := mixTopRow.holds Try.pinned (OpenSpec.ofChange mixTopSpec)

/-- ITS FALSE NEIGHBOUR: 'it returns false'. Refute it at one input. -/
def mixTopWrong : ChangeSpec := { name := "mixTop", fn := fun _ => fun
  | [d] => { results := [.lit (.bool false)], args := [d] }
  | _ => none }
def MixTopWrongFalsely : Prop := mixTopRow.holds Try.pinned (OpenSpec.ofChange mixTopWrong)

/-- 'osierlaw1.MixApart': WHATEVER THE INPUT: true; the input reads as it did. -/
def mixApartSpec : ChangeSpec := { name := "mixApart", fn := fun _ => fun
  | [d1, d2] => { results := [.lit (.bool true)], args := [d1, d2] }
  | _ => none }
def mixApartRow : OpenClaim := { program := "ytjfmhablfcpkmaa", sum := "85a7eb00fab5ffd9e0cf774c472e7fe4694ddf4dd62cda5ce2f74f6548ea927b", func := "osier/osierlaw1.MixApart", spec := "mixApart", apart := false }
def MixApartSaid : Prop := mixApartRow.holds Try.pinned (OpenSpec.ofChange mixApartSpec)

/-- ITS FALSE NEIGHBOUR: 'it returns false'. Refute it at one input. -/
def mixApartWrong : ChangeSpec := { name := "mixApart", fn := fun _ => fun
  | [d1, d2] => { results := [.lit (.bool false)], args := [d1, d2] }
  | _ => none }
def MixApartWrongFalsely : Prop := mixApartRow.holds Try.pinned (OpenSpec.ofChange mixApartWrong)

/-- 'osierlaw3.NodeMakes': WHATEVER THE INPUT: true; the input reads as it did. -/
def nodeMakesSpec : ChangeSpec := { name := "nodeMakes", fn := fun _ => fun
  | [d1, d2] => { results := [.lit (.bool true)], args := [d1, d2] }
  | _ => none }
def nodeMakesRow : OpenClaim := { program := "ytjfmhablfcpkmaa", sum := "85a7eb00fab5ffd9e0cf774c472e7fe4694ddf4dd62cda5ce2f74f6548ea927b", func := "osier/osierlaw3.NodeMakes", spec := "nodeMakes", apart := false }
def NodeMakesSaid : Prop := nodeMakesRow.holds Try.pinned (OpenSpec.ofChange nodeMakesSpec)

/-- ITS FALSE NEIGHBOUR: 'it returns false'. Refute it at one input. -/
def nodeMakesWrong : ChangeSpec := { name := "nodeMakes", fn := fun _ => fun
  | [d1, d2] => { results := [.lit (.bool false)], args := [d1, d2] }
  | _ => none }
def NodeMakesWrongFalsely : Prop := nodeMakesRow.holds Try.pinned (OpenSpec.ofChange nodeMakesWrong)

/-- 'osierlaw3.NodeEmbeds': WHATEVER THE INPUT: true; the input reads as it did. -/
def nodeEmbedsSpec : ChangeSpec := { name := "nodeEmbeds", fn := fun _ => fun
  | [d1, d2, d3, d4] => { results := [.lit (.bool true)], args := [d1, d2, d3, d4] }
  | _ => none }
def nodeEmbedsRow : OpenClaim := { program := "ytjfmhablfcpkmaa", sum := "85a7eb00fab5ffd9e0cf774c472e7fe4694ddf4dd62cda5ce2f74f6548ea927b", func := "osier/osierlaw3.NodeEmbeds", spec := "nodeEmbeds", apart := false }
def NodeEmbedsSaid : Prop := nodeEmbedsRow.holds Try.pinned (OpenSpec.ofChange nodeEmbedsSpec)

/-- ITS FALSE NEIGHBOUR: 'it returns false'. Refute it at one input. -/
def nodeEmbedsWrong : ChangeSpec := { name := "nodeEmbeds", fn := fun _ => fun
  | [d1, d2, d3, d4] => { results := [.lit (.bool false)], args := [d1, d2, d3, d4] }
  | _ => none }
def NodeEmbedsWrongFalsely : Prop := nodeEmbedsRow.holds Try.pinned (OpenSpec.ofChange nodeEmbedsWrong)

/-- 'osierlaw3.NodeRaw': WHATEVER THE INPUT: true; the input reads as it did. -/
def nodeRawSpec : ChangeSpec := { name := "nodeRaw", fn := fun _ => fun
  | [d1, d2, d3, d4] => { results := [.lit (.bool true)], args := [d1, d2, d3, d4] }
  | _ => none }
def nodeRawRow : OpenClaim := { program := "ytjfmhablfcpkmaa", sum := "85a7eb00fab5ffd9e0cf774c472e7fe4694ddf4dd62cda5ce2f74f6548ea927b", func := "osier/osierlaw3.NodeRaw", spec := "nodeRaw", apart := false }
def NodeRawSaid : Prop := nodeRawRow.holds Try.pinned (OpenSpec.ofChange nodeRawSpec)

/-- ITS FALSE NEIGHBOUR: 'it returns false'. Refute it at one input. -/
def nodeRawWrong : ChangeSpec := { name := "nodeRaw", fn := fun _ => fun
  | [d1, d2, d3, d4] => { results := [.lit (.bool false)], args := [d1, d2, d3, d4] }
  | _ => none }
def NodeRawWrongFalsely : Prop := nodeRawRow.holds Try.pinned (OpenSpec.ofChange nodeRawWrong)

/-- 'osierlaw3.NodeLaid': WHATEVER THE INPUT: true; the input reads as it did. -/
def nodeLaidSpec : ChangeSpec := { name := "nodeLaid", fn := fun _ => fun
  | [d] => { results := [.lit (.bool true)], args := [d] }
  | _ => none }
def nodeLaidRow : OpenClaim := { program := "ytjfmhablfcpkmaa", sum := "85a7eb00fab5ffd9e0cf774c472e7fe4694ddf4dd62cda5ce2f74f6548ea927b", func := "osier/osierlaw3.NodeLaid", spec := "nodeLaid", recurses := true, apart := false }
def NodeLaidSaid : Prop := nodeLaidRow.holds Try.pinned (OpenSpec.ofChange nodeLaidSpec)

/-- ITS FALSE NEIGHBOUR: 'it returns false'. Refute it at one input. -/
def nodeLaidWrong : ChangeSpec := { name := "nodeLaid", fn := fun _ => fun
  | [d] => { results := [.lit (.bool false)], args := [d] }
  | _ => none }
def NodeLaidWrongFalsely : Prop := nodeLaidRow.holds Try.pinned (OpenSpec.ofChange nodeLaidWrong)

/-- 'osierlaw3.NodeSums': WHATEVER THE INPUT: true; the input reads as it did. -/
def nodeSumsSpec : ChangeSpec := { name := "nodeSums", fn := fun _ => fun
  | [d] => { results := [.lit (.bool true)], args := [d] }
  | _ => none }
def nodeSumsRow : OpenClaim := { program := "ytjfmhablfcpkmaa", sum := "85a7eb00fab5ffd9e0cf774c472e7fe4694ddf4dd62cda5ce2f74f6548ea927b", func := "osier/osierlaw3.NodeSums", spec := "nodeSums", recurses := true, apart := false }
def NodeSumsSaid : Prop := nodeSumsRow.holds Try.pinned (OpenSpec.ofChange nodeSumsSpec)

/-- ITS FALSE NEIGHBOUR: 'it returns false'. Refute it at one input. -/
def nodeSumsWrong : ChangeSpec := { name := "nodeSums", fn := fun _ => fun
  | [d] => { results := [.lit (.bool false)], args := [d] }
  | _ => none }
def NodeSumsWrongFalsely : Prop := nodeSumsRow.holds Try.pinned (OpenSpec.ofChange nodeSumsWrong)

/-- 'osierlaw2.ArenaSwaps': WHATEVER THE INPUT: true; the input reads as it did. -/
def arenaSwapsSpec : ChangeSpec := { name := "arenaSwaps", fn := fun _ => fun
  | [d1, d2] => { results := [.lit (.bool true)], args := [d1, d2] }
  | _ => none }
def arenaSwapsRow : OpenClaim := { program := "ytjfmhablfcpkmaa", sum := "85a7eb00fab5ffd9e0cf774c472e7fe4694ddf4dd62cda5ce2f74f6548ea927b", func := "osier/osierlaw2.ArenaSwaps", spec := "arenaSwaps", apart := false }
def ArenaSwapsSaid : Prop := arenaSwapsRow.holds Try.pinned (OpenSpec.ofChange arenaSwapsSpec)

/-- ITS FALSE NEIGHBOUR: 'it returns false'. Refute it at one input. -/
def arenaSwapsWrong : ChangeSpec := { name := "arenaSwaps", fn := fun _ => fun
  | [d1, d2] => { results := [.lit (.bool false)], args := [d1, d2] }
  | _ => none }
def ArenaSwapsWrongFalsely : Prop := arenaSwapsRow.holds Try.pinned (OpenSpec.ofChange arenaSwapsWrong)

/-- 'osierlaw2.ArenaFull': WHATEVER THE INPUT: true; the input reads as it did. -/
def arenaFullSpec : ChangeSpec := { name := "arenaFull", fn := fun _ => fun
  | [d1, d2] => { results := [.lit (.bool true)], args := [d1, d2] }
  | _ => none }
def arenaFullRow : OpenClaim := { program := "ytjfmhablfcpkmaa", sum := "85a7eb00fab5ffd9e0cf774c472e7fe4694ddf4dd62cda5ce2f74f6548ea927b", func := "osier/osierlaw2.ArenaFull", spec := "arenaFull", apart := false }
def ArenaFullSaid : Prop := arenaFullRow.holds Try.pinned (OpenSpec.ofChange arenaFullSpec)

/-- ITS FALSE NEIGHBOUR: 'it returns false'. Refute it at one input. -/
def arenaFullWrong : ChangeSpec := { name := "arenaFull", fn := fun _ => fun
  | [d1, d2] => { results := [.lit (.bool false)], args := [d1, d2] }
  | _ => none }
def ArenaFullWrongFalsely : Prop := arenaFullRow.holds Try.pinned (OpenSpec.ofChange arenaFullWrong)

/-- 'osierlaw2.ArenaPlays': WHATEVER THE INPUT: true; the input reads as it did. -/
def arenaPlaysSpec : ChangeSpec := { name := "arenaPlays", fn := fun _ => fun
  | [d1, d2] => { results := [.lit (.bool true)], args := [d1, d2] }
  | _ => none }
def arenaPlaysRow : OpenClaim := { program := "ytjfmhablfcpkmaa", sum := "85a7eb00fab5ffd9e0cf774c472e7fe4694ddf4dd62cda5ce2f74f6548ea927b", func := "osier/osierlaw2.ArenaPlays", spec := "arenaPlays", apart := false }
def ArenaPlaysSaid : Prop := arenaPlaysRow.holds Try.pinned (OpenSpec.ofChange arenaPlaysSpec)

/-- ITS FALSE NEIGHBOUR: 'it returns false'. Refute it at one input. -/
def arenaPlaysWrong : ChangeSpec := { name := "arenaPlays", fn := fun _ => fun
  | [d1, d2] => { results := [.lit (.bool false)], args := [d1, d2] }
  | _ => none }
def ArenaPlaysWrongFalsely : Prop := arenaPlaysRow.holds Try.pinned (OpenSpec.ofChange arenaPlaysWrong)

/-- 'osierlaw2.ArenaNil': WHATEVER THE INPUT: true; the input reads as it did. -/
def arenaNilSpec : ChangeSpec := { name := "arenaNil", fn := fun _ => fun
  | [d] => { results := [.lit (.bool true)], args := [d] }
  | _ => none }
def arenaNilRow : OpenClaim := { program := "ytjfmhablfcpkmaa", sum := "85a7eb00fab5ffd9e0cf774c472e7fe4694ddf4dd62cda5ce2f74f6548ea927b", func := "osier/osierlaw2.ArenaNil", spec := "arenaNil", apart := false }
def ArenaNilSaid : Prop := arenaNilRow.holds Try.pinned (OpenSpec.ofChange arenaNilSpec)

/-- ITS FALSE NEIGHBOUR: 'it returns false'. Refute it at one input. -/
def arenaNilWrong : ChangeSpec := { name := "arenaNil", fn := fun _ => fun
  | [d] => { results := [.lit (.bool false)], args := [d] }
  | _ => none }
def ArenaNilWrongFalsely : Prop := arenaNilRow.holds Try.pinned (OpenSpec.ofChange arenaNilWrong)

/-- 'osierlaw2.ArenaNew': WHATEVER THE INPUT: true; the input reads as it did. -/
def arenaNewSpec : ChangeSpec := { name := "arenaNew", fn := fun _ => fun
  | [d1, d2, d3] => { results := [.lit (.bool true)], args := [d1, d2, d3] }
  | _ => none }
def arenaNewRow : OpenClaim := { program := "ytjfmhablfcpkmaa", sum := "85a7eb00fab5ffd9e0cf774c472e7fe4694ddf4dd62cda5ce2f74f6548ea927b", func := "osier/osierlaw2.ArenaNew", spec := "arenaNew", apart := false }
def ArenaNewSaid : Prop := arenaNewRow.holds Try.pinned (OpenSpec.ofChange arenaNewSpec)

/-- ITS FALSE NEIGHBOUR: 'it returns false'. Refute it at one input. -/
def arenaNewWrong : ChangeSpec := { name := "arenaNew", fn := fun _ => fun
  | [d1, d2, d3] => { results := [.lit (.bool false)], args := [d1, d2, d3] }
  | _ => none }
def ArenaNewWrongFalsely : Prop := arenaNewRow.holds Try.pinned (OpenSpec.ofChange arenaNewWrong)

/-- 'osierlaw2.ArenaOnce': WHATEVER THE INPUT: true; the input reads as it did. -/
def arenaOnceSpec : ChangeSpec := { name := "arenaOnce", fn := fun _ => fun
  | [d1, d2] => { results := [.lit (.bool true)], args := [d1, d2] }
  | _ => none }
def arenaOnceRow : OpenClaim := { program := "ytjfmhablfcpkmaa", sum := "85a7eb00fab5ffd9e0cf774c472e7fe4694ddf4dd62cda5ce2f74f6548ea927b", func := "osier/osierlaw2.ArenaOnce", spec := "arenaOnce", apart := false }
def ArenaOnceSaid : Prop := arenaOnceRow.holds Try.pinned (OpenSpec.ofChange arenaOnceSpec)

/-- ITS FALSE NEIGHBOUR: 'it returns false'. Refute it at one input. -/
def arenaOnceWrong : ChangeSpec := { name := "arenaOnce", fn := fun _ => fun
  | [d1, d2] => { results := [.lit (.bool false)], args := [d1, d2] }
  | _ => none }
def ArenaOnceWrongFalsely : Prop := arenaOnceRow.holds Try.pinned (OpenSpec.ofChange arenaOnceWrong)

/- THE SECOND FORM. 'bulk': how many values and letters a reading holds, each counted each time it is reached (what is shared counts as often as it is met; a slice's spare places count too). A statement '..UptoSaid' is the law's where the arguments, and the package variables that the reading takes, are together of bulk at most 1048576: NARROWER than '..Said'. Prove '..Said' where nothing that the law and all that it calls make is longer than what came in: it says more and counts as full. Else prove '..UptoSaid'. A law counts once. -/
mutual
def uptoBulk {H : Type} : DataW H → Nat
  | .lit (.string bytes) => bytes.length + 1
  | .lit _ => 1
  | .nil => 1
  | .ptr d => uptoBulk d + 1
  | .slice elems spare => uptoBulkAll elems + uptoBulkAll spare + 1
  | .agg parts => uptoBulkAll parts + 1
  | .iface _ d => uptoBulk d + 1
  | .map entries => uptoBulkEntries entries + 1
  | .held _ => 1
def uptoBulkAll {H : Type} : List (DataW H) → Nat
  | [] => 0
  | d :: r => uptoBulk d + uptoBulkAll r
def uptoBulkEntries {H : Type} : List (Lit × DataW H) → Nat
  | [] => 0
  | x :: r => uptoBulkEntry x + uptoBulkEntries r
def uptoBulkEntry {H : Type} : Lit × DataW H → Nat
  | (.string bytes, d) => bytes.length + uptoBulk d + 1
  | (_, d) => uptoBulk d + 1
 end
def uptoSmall : (H : Type) → List (DataW H) → Bool := fun _ ds => decide (uptoBulkAll ds ≤ 1048576)
def OpenSpec.upto (s : _root_.Go.ChangeSpec) : _root_.Go.OpenSpec := { _root_.Go.OpenSpec.ofChange s with cond := some uptoSmall }

/-- 'osierlaw1.MixForms', WHERE WHAT IT READS IS OF BULK AT MOST 1048576: true; the input reads as it did. -/
def mixFormsUptoRow : OpenClaim := { program := "ytjfmhablfcpkmaa", sum := "85a7eb00fab5ffd9e0cf774c472e7fe4694ddf4dd62cda5ce2f74f6548ea927b", func := "osier/osierlaw1.MixForms", spec := "mixForms", apart := false, narrowed := true }
def MixFormsUptoSaid : Prop := mixFormsUptoRow.holds Try.pinned (OpenSpec.upto mixFormsSpec)

/-- 'osierlaw1.MixOne', WHERE WHAT IT READS IS OF BULK AT MOST 1048576: true; the input reads as it did. -/
def mixOneUptoRow : OpenClaim := { program := "ytjfmhablfcpkmaa", sum := "85a7eb00fab5ffd9e0cf774c472e7fe4694ddf4dd62cda5ce2f74f6548ea927b", func := "osier/osierlaw1.MixOne", spec := "mixOne", apart := false, narrowed := true }
def MixOneUptoSaid : Prop := mixOneUptoRow.holds Try.pinned (OpenSpec.upto mixOneSpec)

/-- 'osierlaw1.MixTop', WHERE WHAT IT READS IS OF BULK AT MOST 1048576: true; the input reads as it did. -/
def mixTopUptoRow : OpenClaim := { program := "ytjfmhablfcpkmaa", sum := "85a7eb00fab5ffd9e0cf774c472e7fe4694ddf4dd62cda5ce2f74f6548ea927b", func := "osier/osierlaw1.MixTop", spec := "mixTop", apart := false, narrowed := true }
def MixTopUptoSaid : Prop := mixTopUptoRow.holds Try.pinned (OpenSpec.upto mixTopSpec)

/-- 'osierlaw1.MixApart', WHERE WHAT IT READS IS OF BULK AT MOST 1048576: true; the input reads as it did. -/
def mixApartUptoRow : OpenClaim := { program := "ytjfmhablfcpkmaa", sum := "85a7eb00fab5ffd9e0cf774c472e7fe4694ddf4dd62cda5ce2f74f6548ea927b", func := "osier/osierlaw1.MixApart", spec := "mixApart", apart := false, narrowed := true }
def MixApartUptoSaid : Prop := mixApartUptoRow.holds Try.pinned (OpenSpec.upto mixApartSpec)

/-- 'osierlaw3.NodeMakes', WHERE WHAT IT READS IS OF BULK AT MOST 1048576: true; the input reads as it did. -/
def nodeMakesUptoRow : OpenClaim := { program := "ytjfmhablfcpkmaa", sum := "85a7eb00fab5ffd9e0cf774c472e7fe4694ddf4dd62cda5ce2f74f6548ea927b", func := "osier/osierlaw3.NodeMakes", spec := "nodeMakes", apart := false, narrowed := true }
def NodeMakesUptoSaid : Prop := nodeMakesUptoRow.holds Try.pinned (OpenSpec.upto nodeMakesSpec)

/-- 'osierlaw3.NodeEmbeds', WHERE WHAT IT READS IS OF BULK AT MOST 1048576: true; the input reads as it did. -/
def nodeEmbedsUptoRow : OpenClaim := { program := "ytjfmhablfcpkmaa", sum := "85a7eb00fab5ffd9e0cf774c472e7fe4694ddf4dd62cda5ce2f74f6548ea927b", func := "osier/osierlaw3.NodeEmbeds", spec := "nodeEmbeds", apart := false, narrowed := true }
def NodeEmbedsUptoSaid : Prop := nodeEmbedsUptoRow.holds Try.pinned (OpenSpec.upto nodeEmbedsSpec)

/-- 'osierlaw3.NodeRaw', WHERE WHAT IT READS IS OF BULK AT MOST 1048576: true; the input reads as it did. -/
def nodeRawUptoRow : OpenClaim := { program := "ytjfmhablfcpkmaa", sum := "85a7eb00fab5ffd9e0cf774c472e7fe4694ddf4dd62cda5ce2f74f6548ea927b", func := "osier/osierlaw3.NodeRaw", spec := "nodeRaw", apart := false, narrowed := true }
def NodeRawUptoSaid : Prop := nodeRawUptoRow.holds Try.pinned (OpenSpec.upto nodeRawSpec)

/-- 'osierlaw3.NodeLaid', WHERE WHAT IT READS IS OF BULK AT MOST 1048576: true; the input reads as it did. -/
def nodeLaidUptoRow : OpenClaim := { program := "ytjfmhablfcpkmaa", sum := "85a7eb00fab5ffd9e0cf774c472e7fe4694ddf4dd62cda5ce2f74f6548ea927b", func := "osier/osierlaw3.NodeLaid", spec := "nodeLaid", recurses := true, apart := false, narrowed := true }
def NodeLaidUptoSaid : Prop := nodeLaidUptoRow.holds Try.pinned (OpenSpec.upto nodeLaidSpec)

/-- 'osierlaw3.NodeSums', WHERE WHAT IT READS IS OF BULK AT MOST 1048576: true; the input reads as it did. -/
def nodeSumsUptoRow : OpenClaim := { program := "ytjfmhablfcpkmaa", sum := "85a7eb00fab5ffd9e0cf774c472e7fe4694ddf4dd62cda5ce2f74f6548ea927b", func := "osier/osierlaw3.NodeSums", spec := "nodeSums", recurses := true, apart := false, narrowed := true }
def NodeSumsUptoSaid : Prop := nodeSumsUptoRow.holds Try.pinned (OpenSpec.upto nodeSumsSpec)

/-- 'osierlaw2.ArenaSwaps', WHERE WHAT IT READS IS OF BULK AT MOST 1048576: true; the input reads as it did. -/
def arenaSwapsUptoRow : OpenClaim := { program := "ytjfmhablfcpkmaa", sum := "85a7eb00fab5ffd9e0cf774c472e7fe4694ddf4dd62cda5ce2f74f6548ea927b", func := "osier/osierlaw2.ArenaSwaps", spec := "arenaSwaps", apart := false, narrowed := true }
def ArenaSwapsUptoSaid : Prop := arenaSwapsUptoRow.holds Try.pinned (OpenSpec.upto arenaSwapsSpec)

/-- 'osierlaw2.ArenaFull', WHERE WHAT IT READS IS OF BULK AT MOST 1048576: true; the input reads as it did. -/
def arenaFullUptoRow : OpenClaim := { program := "ytjfmhablfcpkmaa", sum := "85a7eb00fab5ffd9e0cf774c472e7fe4694ddf4dd62cda5ce2f74f6548ea927b", func := "osier/osierlaw2.ArenaFull", spec := "arenaFull", apart := false, narrowed := true }
def ArenaFullUptoSaid : Prop := arenaFullUptoRow.holds Try.pinned (OpenSpec.upto arenaFullSpec)

/-- 'osierlaw2.ArenaPlays', WHERE WHAT IT READS IS OF BULK AT MOST 1048576: true; the input reads as it did. -/
def arenaPlaysUptoRow : OpenClaim := { program := "ytjfmhablfcpkmaa", sum := "85a7eb00fab5ffd9e0cf774c472e7fe4694ddf4dd62cda5ce2f74f6548ea927b", func := "osier/osierlaw2.ArenaPlays", spec := "arenaPlays", apart := false, narrowed := true }
def ArenaPlaysUptoSaid : Prop := arenaPlaysUptoRow.holds Try.pinned (OpenSpec.upto arenaPlaysSpec)

/-- 'osierlaw2.ArenaNil', WHERE WHAT IT READS IS OF BULK AT MOST 1048576: true; the input reads as it did. -/
def arenaNilUptoRow : OpenClaim := { program := "ytjfmhablfcpkmaa", sum := "85a7eb00fab5ffd9e0cf774c472e7fe4694ddf4dd62cda5ce2f74f6548ea927b", func := "osier/osierlaw2.ArenaNil", spec := "arenaNil", apart := false, narrowed := true }
def ArenaNilUptoSaid : Prop := arenaNilUptoRow.holds Try.pinned (OpenSpec.upto arenaNilSpec)

/-- 'osierlaw2.ArenaNew', WHERE WHAT IT READS IS OF BULK AT MOST 1048576: true; the input reads as it did. -/
def arenaNewUptoRow : OpenClaim := { program := "ytjfmhablfcpkmaa", sum := "85a7eb00fab5ffd9e0cf774c472e7fe4694ddf4dd62cda5ce2f74f6548ea927b", func := "osier/osierlaw2.ArenaNew", spec := "arenaNew", apart := false, narrowed := true }
def ArenaNewUptoSaid : Prop := arenaNewUptoRow.holds Try.pinned (OpenSpec.upto arenaNewSpec)

/-- 'osierlaw2.ArenaOnce', WHERE WHAT IT READS IS OF BULK AT MOST 1048576: true; the input reads as it did. -/
def arenaOnceUptoRow : OpenClaim := { program := "ytjfmhablfcpkmaa", sum := "85a7eb00fab5ffd9e0cf774c472e7fe4694ddf4dd62cda5ce2f74f6548ea927b", func := "osier/osierlaw2.ArenaOnce", spec := "arenaOnce", apart := false, narrowed := true }
def ArenaOnceUptoSaid : Prop := arenaOnceUptoRow.holds Try.pinned (OpenSpec.upto arenaOnceSpec)

end Rows
end Go.Proofs.Ytjfmhablfcpkmaa
