/-
  No cell of these rows narrows 'for every input' (looked for: loops, veiled, ifaces, maps, wideKeys, modest, calm, conditions, laid).
  DERIVED. THE GIVEN ROWS OF THIS SEAT. 12 by the template 'for every input the law returns true; each argument reads behind the call as it read before'; 0 by the template 'total and deterministic' (their statements: YtnkackiocigdoaaTotals.lean).
  GIVEN WITH THE SEED: the statements are not yours to turn. If you find one false, say at which input.
  Laid BY PROGRAM, IN A SANDBOX (cutbox-rows.mjs): the forced cells as the released guide's own fill.sh prints them over the translation 8a117de82c7be9e9… (all of the seat's roots in one cut). By AI agents, Wed Nov 11 2026. No macro, syntax, notation, axiom, sorry.
-/
import Derived.Test.YtnkackiocigdoaaChecked
import GoSem.Claim
import GoSem.ClaimJoined
import GoSem.ClaimMapViews
import Derived.JoinedTies
import Derived.KernelRfl
namespace Go.Proofs.Ytnkackiocigdoaa
/- THE CELL 'sum', in the pinned program and in every row, IS THE sha256 OF THE DUMP (.gsa) THAT YtnkackiocigdoaaProg.lean LOADS. Nothing in Lean hashes anything: it is a label: what it is worth is what the hold of that sum in a sandbox is worth. -/
noncomputable def Try.pinned : Pinned := { name := "ytnkackiocigdoaa", sum := "8a117de82c7be9e98f3bbae303a80737520be53c5c2717d764c1c2894b83de38", checked := Try.checked }
namespace Rows
def none {H : Type} : Left H := { results := [], args := [] }

/-- 'coppicerkeep.GrammarSets': WHATEVER THE INPUT: true; the input reads as it did. -/
def grammarSetsSpec : ChangeSpec := { name := "grammarSets", fn := fun _ => fun
  | [d1, d2] => { results := [.lit (.bool true)], args := [d1, d2] }
  | _ => none }
def grammarSetsRow : OpenClaim := { program := "ytnkackiocigdoaa", sum := "8a117de82c7be9e98f3bbae303a80737520be53c5c2717d764c1c2894b83de38", func := "coppicer/coppicerkeep.GrammarSets", spec := "grammarSets", unfollowed := true, recurses := true, plainKeys := false, apart := false }
def GrammarSetsSaid : Prop := grammarSetsRow.holds Try.pinned (OpenSpec.ofChange grammarSetsSpec)

/-- ITS FALSE NEIGHBOUR: 'it returns false'. Refute it at one input. -/
def grammarSetsWrong : ChangeSpec := { name := "grammarSets", fn := fun _ => fun
  | [d1, d2] => { results := [.lit (.bool false)], args := [d1, d2] }
  | _ => none }
def GrammarSetsWrongFalsely : Prop := grammarSetsRow.holds Try.pinned (OpenSpec.ofChange grammarSetsWrong)

/-- 'coppicerkeep.TableJoins': WHATEVER THE INPUT: true; the input reads as it did. -/
def tableJoinsSpec : ChangeSpec := { name := "tableJoins", fn := fun _ => fun
  | [d1, d2, d3] => { results := [.lit (.bool true)], args := [d1, d2, d3] }
  | _ => none }
def tableJoinsRow : OpenClaim := { program := "ytnkackiocigdoaa", sum := "8a117de82c7be9e98f3bbae303a80737520be53c5c2717d764c1c2894b83de38", func := "coppicer/coppicerkeep.TableJoins", spec := "tableJoins", unfollowed := true, recurses := true, plainKeys := false, apart := false }
def TableJoinsSaid : Prop := tableJoinsRow.holds Try.pinned (OpenSpec.ofChange tableJoinsSpec)

/-- ITS FALSE NEIGHBOUR: 'it returns false'. Refute it at one input. -/
def tableJoinsWrong : ChangeSpec := { name := "tableJoins", fn := fun _ => fun
  | [d1, d2, d3] => { results := [.lit (.bool false)], args := [d1, d2, d3] }
  | _ => none }
def TableJoinsWrongFalsely : Prop := tableJoinsRow.holds Try.pinned (OpenSpec.ofChange tableJoinsWrong)

/-- 'coppicerkeep.TableMore': WHATEVER THE INPUT: true; the input reads as it did. -/
def tableMoreSpec : ChangeSpec := { name := "tableMore", fn := fun _ => fun
  | [d1, d2, d3] => { results := [.lit (.bool true)], args := [d1, d2, d3] }
  | _ => none }
def tableMoreRow : OpenClaim := { program := "ytnkackiocigdoaa", sum := "8a117de82c7be9e98f3bbae303a80737520be53c5c2717d764c1c2894b83de38", func := "coppicer/coppicerkeep.TableMore", spec := "tableMore", unfollowed := true, recurses := true, plainKeys := false, apart := false }
def TableMoreSaid : Prop := tableMoreRow.holds Try.pinned (OpenSpec.ofChange tableMoreSpec)

/-- ITS FALSE NEIGHBOUR: 'it returns false'. Refute it at one input. -/
def tableMoreWrong : ChangeSpec := { name := "tableMore", fn := fun _ => fun
  | [d1, d2, d3] => { results := [.lit (.bool false)], args := [d1, d2, d3] }
  | _ => none }
def TableMoreWrongFalsely : Prop := tableMoreRow.holds Try.pinned (OpenSpec.ofChange tableMoreWrong)

/-- 'coppicerkeep.GrammarMade': WHATEVER THE INPUT: true; the input reads as it did. -/
def grammarMadeSpec : ChangeSpec := { name := "grammarMade", fn := fun _ => fun
  | [d1, d2] => { results := [.lit (.bool true)], args := [d1, d2] }
  | _ => none }
def grammarMadeRow : OpenClaim := { program := "ytnkackiocigdoaa", sum := "8a117de82c7be9e98f3bbae303a80737520be53c5c2717d764c1c2894b83de38", func := "coppicer/coppicerkeep.GrammarMade", spec := "grammarMade", unfollowed := true, recurses := true, plainKeys := false, apart := false }
def GrammarMadeSaid : Prop := grammarMadeRow.holds Try.pinned (OpenSpec.ofChange grammarMadeSpec)

/-- ITS FALSE NEIGHBOUR: 'it returns false'. Refute it at one input. -/
def grammarMadeWrong : ChangeSpec := { name := "grammarMade", fn := fun _ => fun
  | [d1, d2] => { results := [.lit (.bool false)], args := [d1, d2] }
  | _ => none }
def GrammarMadeWrongFalsely : Prop := grammarMadeRow.holds Try.pinned (OpenSpec.ofChange grammarMadeWrong)

/-- 'coppicerkeep.TableTree': WHATEVER THE INPUT: true; the input reads as it did. -/
def tableTreeSpec : ChangeSpec := { name := "tableTree", fn := fun _ => fun
  | [d1, d2] => { results := [.lit (.bool true)], args := [d1, d2] }
  | _ => none }
def tableTreeRow : OpenClaim := { program := "ytnkackiocigdoaa", sum := "8a117de82c7be9e98f3bbae303a80737520be53c5c2717d764c1c2894b83de38", func := "coppicer/coppicerkeep.TableTree", spec := "tableTree", unfollowed := true, recurses := true, plainKeys := false, apart := false }
def TableTreeSaid : Prop := tableTreeRow.holds Try.pinned (OpenSpec.ofChange tableTreeSpec)

/-- ITS FALSE NEIGHBOUR: 'it returns false'. Refute it at one input. -/
def tableTreeWrong : ChangeSpec := { name := "tableTree", fn := fun _ => fun
  | [d1, d2] => { results := [.lit (.bool false)], args := [d1, d2] }
  | _ => none }
def TableTreeWrongFalsely : Prop := tableTreeRow.holds Try.pinned (OpenSpec.ofChange tableTreeWrong)

/-- 'coppicerkeep.AheadFirst': WHATEVER THE INPUT: true; the input reads as it did. -/
def aheadFirstSpec : ChangeSpec := { name := "aheadFirst", fn := fun _ => fun
  | [d1, d2] => { results := [.lit (.bool true)], args := [d1, d2] }
  | _ => none }
def aheadFirstRow : OpenClaim := { program := "ytnkackiocigdoaa", sum := "8a117de82c7be9e98f3bbae303a80737520be53c5c2717d764c1c2894b83de38", func := "coppicer/coppicerkeep.AheadFirst", spec := "aheadFirst", unfollowed := true, recurses := true, plainKeys := false, apart := false }
def AheadFirstSaid : Prop := aheadFirstRow.holds Try.pinned (OpenSpec.ofChange aheadFirstSpec)

/-- ITS FALSE NEIGHBOUR: 'it returns false'. Refute it at one input. -/
def aheadFirstWrong : ChangeSpec := { name := "aheadFirst", fn := fun _ => fun
  | [d1, d2] => { results := [.lit (.bool false)], args := [d1, d2] }
  | _ => none }
def AheadFirstWrongFalsely : Prop := aheadFirstRow.holds Try.pinned (OpenSpec.ofChange aheadFirstWrong)

/-- 'coppicerkeep.PlainLong': WHATEVER THE INPUT: true; the input reads as it did. -/
def plainLongSpec : ChangeSpec := { name := "plainLong", fn := fun _ => fun
  | [d1, d2] => { results := [.lit (.bool true)], args := [d1, d2] }
  | _ => none }
def plainLongRow : OpenClaim := { program := "ytnkackiocigdoaa", sum := "8a117de82c7be9e98f3bbae303a80737520be53c5c2717d764c1c2894b83de38", func := "coppicer/coppicerkeep.PlainLong", spec := "plainLong", unfollowed := true, recurses := true, plainKeys := false, apart := false }
def PlainLongSaid : Prop := plainLongRow.holds Try.pinned (OpenSpec.ofChange plainLongSpec)

/-- ITS FALSE NEIGHBOUR: 'it returns false'. Refute it at one input. -/
def plainLongWrong : ChangeSpec := { name := "plainLong", fn := fun _ => fun
  | [d1, d2] => { results := [.lit (.bool false)], args := [d1, d2] }
  | _ => none }
def PlainLongWrongFalsely : Prop := plainLongRow.holds Try.pinned (OpenSpec.ofChange plainLongWrong)

/-- 'coppicerkeep.ItemsNext': WHATEVER THE INPUT: true; the input reads as it did. -/
def itemsNextSpec : ChangeSpec := { name := "itemsNext", fn := fun _ => fun
  | [d1, d2] => { results := [.lit (.bool true)], args := [d1, d2] }
  | _ => none }
def itemsNextRow : OpenClaim := { program := "ytnkackiocigdoaa", sum := "8a117de82c7be9e98f3bbae303a80737520be53c5c2717d764c1c2894b83de38", func := "coppicer/coppicerkeep.ItemsNext", spec := "itemsNext", unfollowed := true, recurses := true, plainKeys := false, apart := false }
def ItemsNextSaid : Prop := itemsNextRow.holds Try.pinned (OpenSpec.ofChange itemsNextSpec)

/-- ITS FALSE NEIGHBOUR: 'it returns false'. Refute it at one input. -/
def itemsNextWrong : ChangeSpec := { name := "itemsNext", fn := fun _ => fun
  | [d1, d2] => { results := [.lit (.bool false)], args := [d1, d2] }
  | _ => none }
def ItemsNextWrongFalsely : Prop := itemsNextRow.holds Try.pinned (OpenSpec.ofChange itemsNextWrong)

/-- 'coppicerkeep.PlainSmall': WHATEVER THE INPUT: true; the input reads as it did. -/
def plainSmallSpec : ChangeSpec := { name := "plainSmall", fn := fun _ => fun
  | [d1, d2] => { results := [.lit (.bool true)], args := [d1, d2] }
  | _ => none }
def plainSmallRow : OpenClaim := { program := "ytnkackiocigdoaa", sum := "8a117de82c7be9e98f3bbae303a80737520be53c5c2717d764c1c2894b83de38", func := "coppicer/coppicerkeep.PlainSmall", spec := "plainSmall", unfollowed := true, recurses := true, plainKeys := false, apart := false }
def PlainSmallSaid : Prop := plainSmallRow.holds Try.pinned (OpenSpec.ofChange plainSmallSpec)

/-- ITS FALSE NEIGHBOUR: 'it returns false'. Refute it at one input. -/
def plainSmallWrong : ChangeSpec := { name := "plainSmall", fn := fun _ => fun
  | [d1, d2] => { results := [.lit (.bool false)], args := [d1, d2] }
  | _ => none }
def PlainSmallWrongFalsely : Prop := plainSmallRow.holds Try.pinned (OpenSpec.ofChange plainSmallWrong)

/-- 'coppicerkeep.ItemsFront': WHATEVER THE INPUT: true; the input reads as it did. -/
def itemsFrontSpec : ChangeSpec := { name := "itemsFront", fn := fun _ => fun
  | [d1, d2, d3] => { results := [.lit (.bool true)], args := [d1, d2, d3] }
  | _ => none }
def itemsFrontRow : OpenClaim := { program := "ytnkackiocigdoaa", sum := "8a117de82c7be9e98f3bbae303a80737520be53c5c2717d764c1c2894b83de38", func := "coppicer/coppicerkeep.ItemsFront", spec := "itemsFront", unfollowed := true, recurses := true, plainKeys := false, apart := false }
def ItemsFrontSaid : Prop := itemsFrontRow.holds Try.pinned (OpenSpec.ofChange itemsFrontSpec)

/-- ITS FALSE NEIGHBOUR: 'it returns false'. Refute it at one input. -/
def itemsFrontWrong : ChangeSpec := { name := "itemsFront", fn := fun _ => fun
  | [d1, d2, d3] => { results := [.lit (.bool false)], args := [d1, d2, d3] }
  | _ => none }
def ItemsFrontWrongFalsely : Prop := itemsFrontRow.holds Try.pinned (OpenSpec.ofChange itemsFrontWrong)

/-- 'coppicerkeep.ItemsTable': WHATEVER THE INPUT: true; the input reads as it did. -/
def itemsTableSpec : ChangeSpec := { name := "itemsTable", fn := fun _ => fun
  | [d1, d2] => { results := [.lit (.bool true)], args := [d1, d2] }
  | _ => none }
def itemsTableRow : OpenClaim := { program := "ytnkackiocigdoaa", sum := "8a117de82c7be9e98f3bbae303a80737520be53c5c2717d764c1c2894b83de38", func := "coppicer/coppicerkeep.ItemsTable", spec := "itemsTable", unfollowed := true, recurses := true, plainKeys := false, apart := false }
def ItemsTableSaid : Prop := itemsTableRow.holds Try.pinned (OpenSpec.ofChange itemsTableSpec)

/-- ITS FALSE NEIGHBOUR: 'it returns false'. Refute it at one input. -/
def itemsTableWrong : ChangeSpec := { name := "itemsTable", fn := fun _ => fun
  | [d1, d2] => { results := [.lit (.bool false)], args := [d1, d2] }
  | _ => none }
def ItemsTableWrongFalsely : Prop := itemsTableRow.holds Try.pinned (OpenSpec.ofChange itemsTableWrong)

/-- 'coppicerkeep.AheadSteps': WHATEVER THE INPUT: true; the input reads as it did. -/
def aheadStepsSpec : ChangeSpec := { name := "aheadSteps", fn := fun _ => fun
  | [d1, d2] => { results := [.lit (.bool true)], args := [d1, d2] }
  | _ => none }
def aheadStepsRow : OpenClaim := { program := "ytnkackiocigdoaa", sum := "8a117de82c7be9e98f3bbae303a80737520be53c5c2717d764c1c2894b83de38", func := "coppicer/coppicerkeep.AheadSteps", spec := "aheadSteps", unfollowed := true, recurses := true, plainKeys := false, apart := false }
def AheadStepsSaid : Prop := aheadStepsRow.holds Try.pinned (OpenSpec.ofChange aheadStepsSpec)

/-- ITS FALSE NEIGHBOUR: 'it returns false'. Refute it at one input. -/
def aheadStepsWrong : ChangeSpec := { name := "aheadSteps", fn := fun _ => fun
  | [d1, d2] => { results := [.lit (.bool false)], args := [d1, d2] }
  | _ => none }
def AheadStepsWrongFalsely : Prop := aheadStepsRow.holds Try.pinned (OpenSpec.ofChange aheadStepsWrong)

/- THE SECOND FORM. 'bulk': how many values and letters a reading holds, each counted each time it is reached (what is shared counts as often as it is met; a slice's spare places count too). A statement '..UptoSaid' is the law's where the arguments, and the package variables that the reading takes, are together of bulk at most 1048576: NARROWER than '..Said'. Prove '..Said' where nothing that the law and all that it calls make is longer than what came in: it says more and counts as full. Else prove '..UptoSaid'. A law counts once. -/
mutual
def uptoBulk {H : Type} : DataW H → Nat
  | .lit (.string bytes) => bytes.length + 1
  | .lit _ => 1
  | .nil => 1
  | .ptr d => uptoBulk d + 1
  | .slice elems spare => uptoBulkAll elems + uptoBulkAll spare + 1
  | .agg parts => uptoBulkAll parts + 1
  | .iface _ d => uptoBulk d + 1
  | .map entries => uptoBulkEntries entries + 1
  | .held _ => 1
def uptoBulkAll {H : Type} : List (DataW H) → Nat
  | [] => 0
  | d :: r => uptoBulk d + uptoBulkAll r
def uptoBulkEntries {H : Type} : List (Lit × DataW H) → Nat
  | [] => 0
  | x :: r => uptoBulkEntry x + uptoBulkEntries r
def uptoBulkEntry {H : Type} : Lit × DataW H → Nat
  | (.string bytes, d) => bytes.length + uptoBulk d + 1
  | (_, d) => uptoBulk d + 1
 end
def uptoSmall : (H : Type) → List (DataW H) → Bool := fun _ ds => decide (uptoBulkAll ds ≤ 1048576)
def OpenSpec.upto (s : _root_.Go.ChangeSpec) : _root_.Go.OpenSpec := { _root_.Go.OpenSpec.ofChange s with cond := some uptoSmall }

/-- 'coppicerkeep.GrammarSets', WHERE WHAT IT READS IS OF BULK AT MOST 1048576: true; the input reads as it did. -/
def grammarSetsUptoRow : OpenClaim := { program := "ytnkackiocigdoaa", sum := "8a117de82c7be9e98f3bbae303a80737520be53c5c2717d764c1c2894b83de38", func := "coppicer/coppicerkeep.GrammarSets", spec := "grammarSets", unfollowed := true, recurses := true, plainKeys := false, apart := false, narrowed := true }
def GrammarSetsUptoSaid : Prop := grammarSetsUptoRow.holds Try.pinned (OpenSpec.upto grammarSetsSpec)

/-- 'coppicerkeep.TableJoins', WHERE WHAT IT READS IS OF BULK AT MOST 1048576: true; the input reads as it did. -/
def tableJoinsUptoRow : OpenClaim := { program := "ytnkackiocigdoaa", sum := "8a117de82c7be9e98f3bbae303a80737520be53c5c2717d764c1c2894b83de38", func := "coppicer/coppicerkeep.TableJoins", spec := "tableJoins", unfollowed := true, recurses := true, plainKeys := false, apart := false, narrowed := true }
def TableJoinsUptoSaid : Prop := tableJoinsUptoRow.holds Try.pinned (OpenSpec.upto tableJoinsSpec)

/-- 'coppicerkeep.TableMore', WHERE WHAT IT READS IS OF BULK AT MOST 1048576: true; the input reads as it did. -/
def tableMoreUptoRow : OpenClaim := { program := "ytnkackiocigdoaa", sum := "8a117de82c7be9e98f3bbae303a80737520be53c5c2717d764c1c2894b83de38", func := "coppicer/coppicerkeep.TableMore", spec := "tableMore", unfollowed := true, recurses := true, plainKeys := false, apart := false, narrowed := true }
def TableMoreUptoSaid : Prop := tableMoreUptoRow.holds Try.pinned (OpenSpec.upto tableMoreSpec)

/-- 'coppicerkeep.GrammarMade', WHERE WHAT IT READS IS OF BULK AT MOST 1048576: true; the input reads as it did. -/
def grammarMadeUptoRow : OpenClaim := { program := "ytnkackiocigdoaa", sum := "8a117de82c7be9e98f3bbae303a80737520be53c5c2717d764c1c2894b83de38", func := "coppicer/coppicerkeep.GrammarMade", spec := "grammarMade", unfollowed := true, recurses := true, plainKeys := false, apart := false, narrowed := true }
def GrammarMadeUptoSaid : Prop := grammarMadeUptoRow.holds Try.pinned (OpenSpec.upto grammarMadeSpec)

/-- 'coppicerkeep.TableTree', WHERE WHAT IT READS IS OF BULK AT MOST 1048576: true; the input reads as it did. -/
def tableTreeUptoRow : OpenClaim := { program := "ytnkackiocigdoaa", sum := "8a117de82c7be9e98f3bbae303a80737520be53c5c2717d764c1c2894b83de38", func := "coppicer/coppicerkeep.TableTree", spec := "tableTree", unfollowed := true, recurses := true, plainKeys := false, apart := false, narrowed := true }
def TableTreeUptoSaid : Prop := tableTreeUptoRow.holds Try.pinned (OpenSpec.upto tableTreeSpec)

/-- 'coppicerkeep.AheadFirst', WHERE WHAT IT READS IS OF BULK AT MOST 1048576: true; the input reads as it did. -/
def aheadFirstUptoRow : OpenClaim := { program := "ytnkackiocigdoaa", sum := "8a117de82c7be9e98f3bbae303a80737520be53c5c2717d764c1c2894b83de38", func := "coppicer/coppicerkeep.AheadFirst", spec := "aheadFirst", unfollowed := true, recurses := true, plainKeys := false, apart := false, narrowed := true }
def AheadFirstUptoSaid : Prop := aheadFirstUptoRow.holds Try.pinned (OpenSpec.upto aheadFirstSpec)

/-- 'coppicerkeep.PlainLong', WHERE WHAT IT READS IS OF BULK AT MOST 1048576: true; the input reads as it did. -/
def plainLongUptoRow : OpenClaim := { program := "ytnkackiocigdoaa", sum := "8a117de82c7be9e98f3bbae303a80737520be53c5c2717d764c1c2894b83de38", func := "coppicer/coppicerkeep.PlainLong", spec := "plainLong", unfollowed := true, recurses := true, plainKeys := false, apart := false, narrowed := true }
def PlainLongUptoSaid : Prop := plainLongUptoRow.holds Try.pinned (OpenSpec.upto plainLongSpec)

/-- 'coppicerkeep.ItemsNext', WHERE WHAT IT READS IS OF BULK AT MOST 1048576: true; the input reads as it did. -/
def itemsNextUptoRow : OpenClaim := { program := "ytnkackiocigdoaa", sum := "8a117de82c7be9e98f3bbae303a80737520be53c5c2717d764c1c2894b83de38", func := "coppicer/coppicerkeep.ItemsNext", spec := "itemsNext", unfollowed := true, recurses := true, plainKeys := false, apart := false, narrowed := true }
def ItemsNextUptoSaid : Prop := itemsNextUptoRow.holds Try.pinned (OpenSpec.upto itemsNextSpec)

/-- 'coppicerkeep.PlainSmall', WHERE WHAT IT READS IS OF BULK AT MOST 1048576: true; the input reads as it did. -/
def plainSmallUptoRow : OpenClaim := { program := "ytnkackiocigdoaa", sum := "8a117de82c7be9e98f3bbae303a80737520be53c5c2717d764c1c2894b83de38", func := "coppicer/coppicerkeep.PlainSmall", spec := "plainSmall", unfollowed := true, recurses := true, plainKeys := false, apart := false, narrowed := true }
def PlainSmallUptoSaid : Prop := plainSmallUptoRow.holds Try.pinned (OpenSpec.upto plainSmallSpec)

/-- 'coppicerkeep.ItemsFront', WHERE WHAT IT READS IS OF BULK AT MOST 1048576: true; the input reads as it did. -/
def itemsFrontUptoRow : OpenClaim := { program := "ytnkackiocigdoaa", sum := "8a117de82c7be9e98f3bbae303a80737520be53c5c2717d764c1c2894b83de38", func := "coppicer/coppicerkeep.ItemsFront", spec := "itemsFront", unfollowed := true, recurses := true, plainKeys := false, apart := false, narrowed := true }
def ItemsFrontUptoSaid : Prop := itemsFrontUptoRow.holds Try.pinned (OpenSpec.upto itemsFrontSpec)

/-- 'coppicerkeep.ItemsTable', WHERE WHAT IT READS IS OF BULK AT MOST 1048576: true; the input reads as it did. -/
def itemsTableUptoRow : OpenClaim := { program := "ytnkackiocigdoaa", sum := "8a117de82c7be9e98f3bbae303a80737520be53c5c2717d764c1c2894b83de38", func := "coppicer/coppicerkeep.ItemsTable", spec := "itemsTable", unfollowed := true, recurses := true, plainKeys := false, apart := false, narrowed := true }
def ItemsTableUptoSaid : Prop := itemsTableUptoRow.holds Try.pinned (OpenSpec.upto itemsTableSpec)

/-- 'coppicerkeep.AheadSteps', WHERE WHAT IT READS IS OF BULK AT MOST 1048576: true; the input reads as it did. -/
def aheadStepsUptoRow : OpenClaim := { program := "ytnkackiocigdoaa", sum := "8a117de82c7be9e98f3bbae303a80737520be53c5c2717d764c1c2894b83de38", func := "coppicer/coppicerkeep.AheadSteps", spec := "aheadSteps", unfollowed := true, recurses := true, plainKeys := false, apart := false, narrowed := true }
def AheadStepsUptoSaid : Prop := aheadStepsUptoRow.holds Try.pinned (OpenSpec.upto aheadStepsSpec)

end Rows
end Go.Proofs.Ytnkackiocigdoaa
