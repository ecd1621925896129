/-
  No cell of these rows narrows 'for every input' (looked for: loops, veiled, ifaces, maps, wideKeys, modest, calm, conditions, laid).
  DERIVED. THE GIVEN ROWS OF THIS SEAT. 12 by the template 'for every input the law returns true; each argument reads behind the call as it read before'; 0 by the template 'total and deterministic' (their statements: YtbblpddbkdiagaaTotals.lean).
  GIVEN WITH THE SEED: the statements are not yours to turn. If you find one false, say at which input.
  Laid BY PROGRAM, IN A SANDBOX (cutbox-rows.mjs): the forced cells as the released guide's own fill.sh prints them over the translation 1a59e2496f86fcc5… (all of the seat's roots in one cut). By AI agents, Wed Nov 11 2026. No macro, syntax, notation, axiom, sorry.
-/
import Derived.Test.YtbblpddbkdiagaaChecked
import GoSem.Claim
import GoSem.ClaimJoined
import GoSem.ClaimMapViews
import Derived.JoinedTies
import Derived.KernelRfl
namespace Go.Proofs.Ytbblpddbkdiagaa
/- THE CELL 'sum', in the pinned program and in every row, IS THE sha256 OF THE DUMP (.gsa) THAT YtbblpddbkdiagaaProg.lean LOADS. Nothing in Lean hashes anything: it is a label: what it is worth is what the hold of that sum in a sandbox is worth. -/
noncomputable def Try.pinned : Pinned := { name := "ytbblpddbkdiagaa", sum := "1a59e2496f86fcc5ffb131d1b1c9e2c689427e1d1e2e2bbea5b15bdecab97e9f", checked := Try.checked }
namespace Rows
def none {H : Type} : Left H := { results := [], args := [] }

/-- 'coppicerkeep.LyndonTurn': WHATEVER THE INPUT: true; the input reads as it did. -/
def lyndonTurnSpec : ChangeSpec := { name := "lyndonTurn", fn := fun _ => fun
  | [d1, d2] => { results := [.lit (.bool true)], args := [d1, d2] }
  | _ => none }
def lyndonTurnRow : OpenClaim := { program := "ytbblpddbkdiagaa", sum := "1a59e2496f86fcc5ffb131d1b1c9e2c689427e1d1e2e2bbea5b15bdecab97e9f", func := "coppicer/coppicerkeep.LyndonTurn", spec := "lyndonTurn", inPlace := ["internal/bytealg.Compare"], apart := false }
def LyndonTurnSaid : Prop := lyndonTurnRow.holds Try.pinned (OpenSpec.ofChange lyndonTurnSpec)

/-- ITS FALSE NEIGHBOUR: 'it returns false'. Refute it at one input. -/
def lyndonTurnWrong : ChangeSpec := { name := "lyndonTurn", fn := fun _ => fun
  | [d1, d2] => { results := [.lit (.bool false)], args := [d1, d2] }
  | _ => none }
def LyndonTurnWrongFalsely : Prop := lyndonTurnRow.holds Try.pinned (OpenSpec.ofChange lyndonTurnWrong)

/-- 'coppicerkeep.EditShared': WHATEVER THE INPUT: true; the input reads as it did. -/
def editSharedSpec : ChangeSpec := { name := "editShared", fn := fun _ => fun
  | [d1, d2, d3] => { results := [.lit (.bool true)], args := [d1, d2, d3] }
  | _ => none }
def editSharedRow : OpenClaim := { program := "ytbblpddbkdiagaa", sum := "1a59e2496f86fcc5ffb131d1b1c9e2c689427e1d1e2e2bbea5b15bdecab97e9f", func := "coppicer/coppicerkeep.EditShared", spec := "editShared", inPlace := ["internal/bytealg.Compare"], unfollowed := true, recurses := true, apart := false }
def EditSharedSaid : Prop := editSharedRow.holds Try.pinned (OpenSpec.ofChange editSharedSpec)

/-- ITS FALSE NEIGHBOUR: 'it returns false'. Refute it at one input. -/
def editSharedWrong : ChangeSpec := { name := "editShared", fn := fun _ => fun
  | [d1, d2, d3] => { results := [.lit (.bool false)], args := [d1, d2, d3] }
  | _ => none }
def EditSharedWrongFalsely : Prop := editSharedRow.holds Try.pinned (OpenSpec.ofChange editSharedWrong)

/-- 'coppicerkeep.LyndonJoins': WHATEVER THE INPUT: true; the input reads as it did. -/
def lyndonJoinsSpec : ChangeSpec := { name := "lyndonJoins", fn := fun _ => fun
  | [d1, d2] => { results := [.lit (.bool true)], args := [d1, d2] }
  | _ => none }
def lyndonJoinsRow : OpenClaim := { program := "ytbblpddbkdiagaa", sum := "1a59e2496f86fcc5ffb131d1b1c9e2c689427e1d1e2e2bbea5b15bdecab97e9f", func := "coppicer/coppicerkeep.LyndonJoins", spec := "lyndonJoins", inPlace := ["internal/bytealg.Compare"], apart := false }
def LyndonJoinsSaid : Prop := lyndonJoinsRow.holds Try.pinned (OpenSpec.ofChange lyndonJoinsSpec)

/-- ITS FALSE NEIGHBOUR: 'it returns false'. Refute it at one input. -/
def lyndonJoinsWrong : ChangeSpec := { name := "lyndonJoins", fn := fun _ => fun
  | [d1, d2] => { results := [.lit (.bool false)], args := [d1, d2] }
  | _ => none }
def LyndonJoinsWrongFalsely : Prop := lyndonJoinsRow.holds Try.pinned (OpenSpec.ofChange lyndonJoinsWrong)

/-- 'coppicerkeep.ManyLongest': WHATEVER THE INPUT: true; the input reads as it did. -/
def manyLongestSpec : ChangeSpec := { name := "manyLongest", fn := fun _ => fun
  | [d1, d2] => { results := [.lit (.bool true)], args := [d1, d2] }
  | _ => none }
def manyLongestRow : OpenClaim := { program := "ytbblpddbkdiagaa", sum := "1a59e2496f86fcc5ffb131d1b1c9e2c689427e1d1e2e2bbea5b15bdecab97e9f", func := "coppicer/coppicerkeep.ManyLongest", spec := "manyLongest", unfollowed := true, recurses := true, apart := false }
def ManyLongestSaid : Prop := manyLongestRow.holds Try.pinned (OpenSpec.ofChange manyLongestSpec)

/-- ITS FALSE NEIGHBOUR: 'it returns false'. Refute it at one input. -/
def manyLongestWrong : ChangeSpec := { name := "manyLongest", fn := fun _ => fun
  | [d1, d2] => { results := [.lit (.bool false)], args := [d1, d2] }
  | _ => none }
def ManyLongestWrongFalsely : Prop := manyLongestRow.holds Try.pinned (OpenSpec.ofChange manyLongestWrong)

/-- 'coppicerkeep.BracketBack': WHATEVER THE INPUT: true; the input reads as it did. -/
def bracketBackSpec : ChangeSpec := { name := "bracketBack", fn := fun _ => fun
  | [d1, d2, d3] => { results := [.lit (.bool true)], args := [d1, d2, d3] }
  | _ => none }
def bracketBackRow : OpenClaim := { program := "ytbblpddbkdiagaa", sum := "1a59e2496f86fcc5ffb131d1b1c9e2c689427e1d1e2e2bbea5b15bdecab97e9f", func := "coppicer/coppicerkeep.BracketBack", spec := "bracketBack", apart := false }
def BracketBackSaid : Prop := bracketBackRow.holds Try.pinned (OpenSpec.ofChange bracketBackSpec)

/-- ITS FALSE NEIGHBOUR: 'it returns false'. Refute it at one input. -/
def bracketBackWrong : ChangeSpec := { name := "bracketBack", fn := fun _ => fun
  | [d1, d2, d3] => { results := [.lit (.bool false)], args := [d1, d2, d3] }
  | _ => none }
def BracketBackWrongFalsely : Prop := bracketBackRow.holds Try.pinned (OpenSpec.ofChange bracketBackWrong)

/-- 'coppicerkeep.EndsRise': WHATEVER THE INPUT: true; the input reads as it did. -/
def endsRiseSpec : ChangeSpec := { name := "endsRise", fn := fun _ => fun
  | [d] => { results := [.lit (.bool true)], args := [d] }
  | _ => none }
def endsRiseRow : OpenClaim := { program := "ytbblpddbkdiagaa", sum := "1a59e2496f86fcc5ffb131d1b1c9e2c689427e1d1e2e2bbea5b15bdecab97e9f", func := "coppicer/coppicerkeep.EndsRise", spec := "endsRise", inPlace := ["internal/bytealg.Compare"], unfollowed := true, recurses := true, apart := false }
def EndsRiseSaid : Prop := endsRiseRow.holds Try.pinned (OpenSpec.ofChange endsRiseSpec)

/-- ITS FALSE NEIGHBOUR: 'it returns false'. Refute it at one input. -/
def endsRiseWrong : ChangeSpec := { name := "endsRise", fn := fun _ => fun
  | [d] => { results := [.lit (.bool false)], args := [d] }
  | _ => none }
def EndsRiseWrongFalsely : Prop := endsRiseRow.holds Try.pinned (OpenSpec.ofChange endsRiseWrong)

/-- 'coppicerkeep.EndsGrow': WHATEVER THE INPUT: true; the input reads as it did. -/
def endsGrowSpec : ChangeSpec := { name := "endsGrow", fn := fun _ => fun
  | [d1, d2] => { results := [.lit (.bool true)], args := [d1, d2] }
  | _ => none }
def endsGrowRow : OpenClaim := { program := "ytbblpddbkdiagaa", sum := "1a59e2496f86fcc5ffb131d1b1c9e2c689427e1d1e2e2bbea5b15bdecab97e9f", func := "coppicer/coppicerkeep.EndsGrow", spec := "endsGrow", inPlace := ["internal/bytealg.Compare"], unfollowed := true, recurses := true, apart := false }
def EndsGrowSaid : Prop := endsGrowRow.holds Try.pinned (OpenSpec.ofChange endsGrowSpec)

/-- ITS FALSE NEIGHBOUR: 'it returns false'. Refute it at one input. -/
def endsGrowWrong : ChangeSpec := { name := "endsGrow", fn := fun _ => fun
  | [d1, d2] => { results := [.lit (.bool false)], args := [d1, d2] }
  | _ => none }
def EndsGrowWrongFalsely : Prop := endsGrowRow.holds Try.pinned (OpenSpec.ofChange endsGrowWrong)

/-- 'coppicerkeep.EndsFew': WHATEVER THE INPUT: true; the input reads as it did. -/
def endsFewSpec : ChangeSpec := { name := "endsFew", fn := fun _ => fun
  | [d1, d2, d3] => { results := [.lit (.bool true)], args := [d1, d2, d3] }
  | _ => none }
def endsFewRow : OpenClaim := { program := "ytbblpddbkdiagaa", sum := "1a59e2496f86fcc5ffb131d1b1c9e2c689427e1d1e2e2bbea5b15bdecab97e9f", func := "coppicer/coppicerkeep.EndsFew", spec := "endsFew", inPlace := ["internal/bytealg.Compare"], unfollowed := true, recurses := true, apart := false }
def EndsFewSaid : Prop := endsFewRow.holds Try.pinned (OpenSpec.ofChange endsFewSpec)

/-- ITS FALSE NEIGHBOUR: 'it returns false'. Refute it at one input. -/
def endsFewWrong : ChangeSpec := { name := "endsFew", fn := fun _ => fun
  | [d1, d2, d3] => { results := [.lit (.bool false)], args := [d1, d2, d3] }
  | _ => none }
def EndsFewWrongFalsely : Prop := endsFewRow.holds Try.pinned (OpenSpec.ofChange endsFewWrong)

/-- 'coppicerkeep.ManyAlone': WHATEVER THE INPUT: true; the input reads as it did. -/
def manyAloneSpec : ChangeSpec := { name := "manyAlone", fn := fun _ => fun
  | [d1, d2, d3] => { results := [.lit (.bool true)], args := [d1, d2, d3] }
  | _ => none }
def manyAloneRow : OpenClaim := { program := "ytbblpddbkdiagaa", sum := "1a59e2496f86fcc5ffb131d1b1c9e2c689427e1d1e2e2bbea5b15bdecab97e9f", func := "coppicer/coppicerkeep.ManyAlone", spec := "manyAlone", unfollowed := true, recurses := true, apart := false }
def ManyAloneSaid : Prop := manyAloneRow.holds Try.pinned (OpenSpec.ofChange manyAloneSpec)

/-- ITS FALSE NEIGHBOUR: 'it returns false'. Refute it at one input. -/
def manyAloneWrong : ChangeSpec := { name := "manyAlone", fn := fun _ => fun
  | [d1, d2, d3] => { results := [.lit (.bool false)], args := [d1, d2, d3] }
  | _ => none }
def ManyAloneWrongFalsely : Prop := manyAloneRow.holds Try.pinned (OpenSpec.ofChange manyAloneWrong)

/-- 'coppicerkeep.ClimbMarks': WHATEVER THE INPUT: true; the input reads as it did. -/
def climbMarksSpec : ChangeSpec := { name := "climbMarks", fn := fun _ => fun
  | [d1, d2] => { results := [.lit (.bool true)], args := [d1, d2] }
  | _ => none }
def climbMarksRow : OpenClaim := { program := "ytbblpddbkdiagaa", sum := "1a59e2496f86fcc5ffb131d1b1c9e2c689427e1d1e2e2bbea5b15bdecab97e9f", func := "coppicer/coppicerkeep.ClimbMarks", spec := "climbMarks", unfollowed := true, recurses := true, apart := false }
def ClimbMarksSaid : Prop := climbMarksRow.holds Try.pinned (OpenSpec.ofChange climbMarksSpec)

/-- ITS FALSE NEIGHBOUR: 'it returns false'. Refute it at one input. -/
def climbMarksWrong : ChangeSpec := { name := "climbMarks", fn := fun _ => fun
  | [d1, d2] => { results := [.lit (.bool false)], args := [d1, d2] }
  | _ => none }
def ClimbMarksWrongFalsely : Prop := climbMarksRow.holds Try.pinned (OpenSpec.ofChange climbMarksWrong)

/-- 'coppicerkeep.ClimbBack': WHATEVER THE INPUT: true; the input reads as it did. -/
def climbBackSpec : ChangeSpec := { name := "climbBack", fn := fun _ => fun
  | [d1, d2] => { results := [.lit (.bool true)], args := [d1, d2] }
  | _ => none }
def climbBackRow : OpenClaim := { program := "ytbblpddbkdiagaa", sum := "1a59e2496f86fcc5ffb131d1b1c9e2c689427e1d1e2e2bbea5b15bdecab97e9f", func := "coppicer/coppicerkeep.ClimbBack", spec := "climbBack", unfollowed := true, recurses := true, apart := false }
def ClimbBackSaid : Prop := climbBackRow.holds Try.pinned (OpenSpec.ofChange climbBackSpec)

/-- ITS FALSE NEIGHBOUR: 'it returns false'. Refute it at one input. -/
def climbBackWrong : ChangeSpec := { name := "climbBack", fn := fun _ => fun
  | [d1, d2] => { results := [.lit (.bool false)], args := [d1, d2] }
  | _ => none }
def ClimbBackWrongFalsely : Prop := climbBackRow.holds Try.pinned (OpenSpec.ofChange climbBackWrong)

/-- 'coppicerkeep.ClimbShort': WHATEVER THE INPUT: true; the input reads as it did. -/
def climbShortSpec : ChangeSpec := { name := "climbShort", fn := fun _ => fun
  | [d1, d2] => { results := [.lit (.bool true)], args := [d1, d2] }
  | _ => none }
def climbShortRow : OpenClaim := { program := "ytbblpddbkdiagaa", sum := "1a59e2496f86fcc5ffb131d1b1c9e2c689427e1d1e2e2bbea5b15bdecab97e9f", func := "coppicer/coppicerkeep.ClimbShort", spec := "climbShort", unfollowed := true, recurses := true, apart := false }
def ClimbShortSaid : Prop := climbShortRow.holds Try.pinned (OpenSpec.ofChange climbShortSpec)

/-- ITS FALSE NEIGHBOUR: 'it returns false'. Refute it at one input. -/
def climbShortWrong : ChangeSpec := { name := "climbShort", fn := fun _ => fun
  | [d1, d2] => { results := [.lit (.bool false)], args := [d1, d2] }
  | _ => none }
def ClimbShortWrongFalsely : Prop := climbShortRow.holds Try.pinned (OpenSpec.ofChange climbShortWrong)

/- THE SECOND FORM. 'bulk': how many values and letters a reading holds, each counted each time it is reached (what is shared counts as often as it is met; a slice's spare places count too). A statement '..UptoSaid' is the law's where the arguments, and the package variables that the reading takes, are together of bulk at most 1048576: NARROWER than '..Said'. Prove '..Said' where nothing that the law and all that it calls make is longer than what came in: it says more and counts as full. Else prove '..UptoSaid'. A law counts once. -/
mutual
def uptoBulk {H : Type} : DataW H → Nat
  | .lit (.string bytes) => bytes.length + 1
  | .lit _ => 1
  | .nil => 1
  | .ptr d => uptoBulk d + 1
  | .slice elems spare => uptoBulkAll elems + uptoBulkAll spare + 1
  | .agg parts => uptoBulkAll parts + 1
  | .iface _ d => uptoBulk d + 1
  | .map entries => uptoBulkEntries entries + 1
  | .held _ => 1
def uptoBulkAll {H : Type} : List (DataW H) → Nat
  | [] => 0
  | d :: r => uptoBulk d + uptoBulkAll r
def uptoBulkEntries {H : Type} : List (Lit × DataW H) → Nat
  | [] => 0
  | x :: r => uptoBulkEntry x + uptoBulkEntries r
def uptoBulkEntry {H : Type} : Lit × DataW H → Nat
  | (.string bytes, d) => bytes.length + uptoBulk d + 1
  | (_, d) => uptoBulk d + 1
 end
def uptoSmall : (H : Type) → List (DataW H) → Bool := fun _ ds => decide (uptoBulkAll ds ≤ 1048576)
def OpenSpec.upto (s : _root_.Go.ChangeSpec) : _root_.Go.OpenSpec := { _root_.Go.OpenSpec.ofChange s with cond := some uptoSmall }

/-- 'coppicerkeep.LyndonTurn', WHERE WHAT IT READS IS OF BULK AT MOST 1048576: true; the input reads as it did. -/
def lyndonTurnUptoRow : OpenClaim := { program := "ytbblpddbkdiagaa", sum := "1a59e2496f86fcc5ffb131d1b1c9e2c689427e1d1e2e2bbea5b15bdecab97e9f", func := "coppicer/coppicerkeep.LyndonTurn", spec := "lyndonTurn", inPlace := ["internal/bytealg.Compare"], apart := false, narrowed := true }
def LyndonTurnUptoSaid : Prop := lyndonTurnUptoRow.holds Try.pinned (OpenSpec.upto lyndonTurnSpec)

/-- 'coppicerkeep.EditShared', WHERE WHAT IT READS IS OF BULK AT MOST 1048576: true; the input reads as it did. -/
def editSharedUptoRow : OpenClaim := { program := "ytbblpddbkdiagaa", sum := "1a59e2496f86fcc5ffb131d1b1c9e2c689427e1d1e2e2bbea5b15bdecab97e9f", func := "coppicer/coppicerkeep.EditShared", spec := "editShared", inPlace := ["internal/bytealg.Compare"], unfollowed := true, recurses := true, apart := false, narrowed := true }
def EditSharedUptoSaid : Prop := editSharedUptoRow.holds Try.pinned (OpenSpec.upto editSharedSpec)

/-- 'coppicerkeep.LyndonJoins', WHERE WHAT IT READS IS OF BULK AT MOST 1048576: true; the input reads as it did. -/
def lyndonJoinsUptoRow : OpenClaim := { program := "ytbblpddbkdiagaa", sum := "1a59e2496f86fcc5ffb131d1b1c9e2c689427e1d1e2e2bbea5b15bdecab97e9f", func := "coppicer/coppicerkeep.LyndonJoins", spec := "lyndonJoins", inPlace := ["internal/bytealg.Compare"], apart := false, narrowed := true }
def LyndonJoinsUptoSaid : Prop := lyndonJoinsUptoRow.holds Try.pinned (OpenSpec.upto lyndonJoinsSpec)

/-- 'coppicerkeep.ManyLongest', WHERE WHAT IT READS IS OF BULK AT MOST 1048576: true; the input reads as it did. -/
def manyLongestUptoRow : OpenClaim := { program := "ytbblpddbkdiagaa", sum := "1a59e2496f86fcc5ffb131d1b1c9e2c689427e1d1e2e2bbea5b15bdecab97e9f", func := "coppicer/coppicerkeep.ManyLongest", spec := "manyLongest", unfollowed := true, recurses := true, apart := false, narrowed := true }
def ManyLongestUptoSaid : Prop := manyLongestUptoRow.holds Try.pinned (OpenSpec.upto manyLongestSpec)

/-- 'coppicerkeep.BracketBack', WHERE WHAT IT READS IS OF BULK AT MOST 1048576: true; the input reads as it did. -/
def bracketBackUptoRow : OpenClaim := { program := "ytbblpddbkdiagaa", sum := "1a59e2496f86fcc5ffb131d1b1c9e2c689427e1d1e2e2bbea5b15bdecab97e9f", func := "coppicer/coppicerkeep.BracketBack", spec := "bracketBack", apart := false, narrowed := true }
def BracketBackUptoSaid : Prop := bracketBackUptoRow.holds Try.pinned (OpenSpec.upto bracketBackSpec)

/-- 'coppicerkeep.EndsRise', WHERE WHAT IT READS IS OF BULK AT MOST 1048576: true; the input reads as it did. -/
def endsRiseUptoRow : OpenClaim := { program := "ytbblpddbkdiagaa", sum := "1a59e2496f86fcc5ffb131d1b1c9e2c689427e1d1e2e2bbea5b15bdecab97e9f", func := "coppicer/coppicerkeep.EndsRise", spec := "endsRise", inPlace := ["internal/bytealg.Compare"], unfollowed := true, recurses := true, apart := false, narrowed := true }
def EndsRiseUptoSaid : Prop := endsRiseUptoRow.holds Try.pinned (OpenSpec.upto endsRiseSpec)

/-- 'coppicerkeep.EndsGrow', WHERE WHAT IT READS IS OF BULK AT MOST 1048576: true; the input reads as it did. -/
def endsGrowUptoRow : OpenClaim := { program := "ytbblpddbkdiagaa", sum := "1a59e2496f86fcc5ffb131d1b1c9e2c689427e1d1e2e2bbea5b15bdecab97e9f", func := "coppicer/coppicerkeep.EndsGrow", spec := "endsGrow", inPlace := ["internal/bytealg.Compare"], unfollowed := true, recurses := true, apart := false, narrowed := true }
def EndsGrowUptoSaid : Prop := endsGrowUptoRow.holds Try.pinned (OpenSpec.upto endsGrowSpec)

/-- 'coppicerkeep.EndsFew', WHERE WHAT IT READS IS OF BULK AT MOST 1048576: true; the input reads as it did. -/
def endsFewUptoRow : OpenClaim := { program := "ytbblpddbkdiagaa", sum := "1a59e2496f86fcc5ffb131d1b1c9e2c689427e1d1e2e2bbea5b15bdecab97e9f", func := "coppicer/coppicerkeep.EndsFew", spec := "endsFew", inPlace := ["internal/bytealg.Compare"], unfollowed := true, recurses := true, apart := false, narrowed := true }
def EndsFewUptoSaid : Prop := endsFewUptoRow.holds Try.pinned (OpenSpec.upto endsFewSpec)

/-- 'coppicerkeep.ManyAlone', WHERE WHAT IT READS IS OF BULK AT MOST 1048576: true; the input reads as it did. -/
def manyAloneUptoRow : OpenClaim := { program := "ytbblpddbkdiagaa", sum := "1a59e2496f86fcc5ffb131d1b1c9e2c689427e1d1e2e2bbea5b15bdecab97e9f", func := "coppicer/coppicerkeep.ManyAlone", spec := "manyAlone", unfollowed := true, recurses := true, apart := false, narrowed := true }
def ManyAloneUptoSaid : Prop := manyAloneUptoRow.holds Try.pinned (OpenSpec.upto manyAloneSpec)

/-- 'coppicerkeep.ClimbMarks', WHERE WHAT IT READS IS OF BULK AT MOST 1048576: true; the input reads as it did. -/
def climbMarksUptoRow : OpenClaim := { program := "ytbblpddbkdiagaa", sum := "1a59e2496f86fcc5ffb131d1b1c9e2c689427e1d1e2e2bbea5b15bdecab97e9f", func := "coppicer/coppicerkeep.ClimbMarks", spec := "climbMarks", unfollowed := true, recurses := true, apart := false, narrowed := true }
def ClimbMarksUptoSaid : Prop := climbMarksUptoRow.holds Try.pinned (OpenSpec.upto climbMarksSpec)

/-- 'coppicerkeep.ClimbBack', WHERE WHAT IT READS IS OF BULK AT MOST 1048576: true; the input reads as it did. -/
def climbBackUptoRow : OpenClaim := { program := "ytbblpddbkdiagaa", sum := "1a59e2496f86fcc5ffb131d1b1c9e2c689427e1d1e2e2bbea5b15bdecab97e9f", func := "coppicer/coppicerkeep.ClimbBack", spec := "climbBack", unfollowed := true, recurses := true, apart := false, narrowed := true }
def ClimbBackUptoSaid : Prop := climbBackUptoRow.holds Try.pinned (OpenSpec.upto climbBackSpec)

/-- 'coppicerkeep.ClimbShort', WHERE WHAT IT READS IS OF BULK AT MOST 1048576: true; the input reads as it did. -/
def climbShortUptoRow : OpenClaim := { program := "ytbblpddbkdiagaa", sum := "1a59e2496f86fcc5ffb131d1b1c9e2c689427e1d1e2e2bbea5b15bdecab97e9f", func := "coppicer/coppicerkeep.ClimbShort", spec := "climbShort", unfollowed := true, recurses := true, apart := false, narrowed := true }
def ClimbShortUptoSaid : Prop := climbShortUptoRow.holds Try.pinned (OpenSpec.upto climbShortSpec)

end Rows
end Go.Proofs.Ytbblpddbkdiagaa
