/-
  No cell of these rows narrows 'for every input' (looked for: loops, veiled, ifaces, maps, wideKeys, modest, calm, conditions, laid).
  DERIVED. THE GIVEN ROWS OF THIS SEAT. 8 by the template 'for every input the law returns true; each argument reads behind the call as it read before'; 0 by the template 'total and deterministic' (their statements: YtkalcljgcigdgaaTotals.lean).
  GIVEN WITH THE SEED: the statements are not yours to turn. If you find one false, say at which input.
  Laid BY PROGRAM, IN A SANDBOX (cutbox-rows.mjs): the forced cells as the released guide's own fill.sh prints them over the translation da8d11631b646833… (all of the seat's roots in one cut). By AI agents, Wed Nov 11 2026. No macro, syntax, notation, axiom, sorry.
-/
import Derived.Test.YtkalcljgcigdgaaChecked
import GoSem.Claim
import GoSem.ClaimJoined
import GoSem.ClaimMapViews
import Derived.JoinedTies
import Derived.KernelRfl
namespace Go.Proofs.Ytkalcljgcigdgaa
/- THE CELL 'sum', in the pinned program and in every row, IS THE sha256 OF THE DUMP (.gsa) THAT YtkalcljgcigdgaaProg.lean LOADS. Nothing in Lean hashes anything: it is a label: what it is worth is what the hold of that sum in a sandbox is worth. -/
noncomputable def Try.pinned : Pinned := { name := "ytkalcljgcigdgaa", sum := "da8d11631b6468339f90817cfdf2763ef2d94fa1e09e2969ef377a20fa0f5a14", checked := Try.checked }
namespace Rows
def none {H : Type} : Left H := { results := [], args := [] }

/-- 'coppicerkeep.ManyLongest': WHATEVER THE INPUT: true; the input reads as it did. -/
def manyLongestSpec : ChangeSpec := { name := "manyLongest", fn := fun _ => fun
  | [d1, d2] => { results := [.lit (.bool true)], args := [d1, d2] }
  | _ => none }
def manyLongestRow : OpenClaim := { program := "ytkalcljgcigdgaa", sum := "da8d11631b6468339f90817cfdf2763ef2d94fa1e09e2969ef377a20fa0f5a14", func := "coppicer/coppicerkeep.ManyLongest", spec := "manyLongest", unfollowed := true, recurses := true, plainKeys := false, apart := false }
def ManyLongestSaid : Prop := manyLongestRow.holds Try.pinned (OpenSpec.ofChange manyLongestSpec)

/-- ITS FALSE NEIGHBOUR: 'it returns false'. Refute it at one input. -/
def manyLongestWrong : ChangeSpec := { name := "manyLongest", fn := fun _ => fun
  | [d1, d2] => { results := [.lit (.bool false)], args := [d1, d2] }
  | _ => none }
def ManyLongestWrongFalsely : Prop := manyLongestRow.holds Try.pinned (OpenSpec.ofChange manyLongestWrong)

/-- 'coppicerkeep.SpotTakes': WHATEVER THE INPUT: true; the input reads as it did. -/
def spotTakesSpec : ChangeSpec := { name := "spotTakes", fn := fun _ => fun
  | [d1, d2, d3] => { results := [.lit (.bool true)], args := [d1, d2, d3] }
  | _ => none }
def spotTakesRow : OpenClaim := { program := "ytkalcljgcigdgaa", sum := "da8d11631b6468339f90817cfdf2763ef2d94fa1e09e2969ef377a20fa0f5a14", func := "coppicer/coppicerkeep.SpotTakes", spec := "spotTakes", unfollowed := true, recurses := true, plainKeys := false, apart := false }
def SpotTakesSaid : Prop := spotTakesRow.holds Try.pinned (OpenSpec.ofChange spotTakesSpec)

/-- ITS FALSE NEIGHBOUR: 'it returns false'. Refute it at one input. -/
def spotTakesWrong : ChangeSpec := { name := "spotTakes", fn := fun _ => fun
  | [d1, d2, d3] => { results := [.lit (.bool false)], args := [d1, d2, d3] }
  | _ => none }
def SpotTakesWrongFalsely : Prop := spotTakesRow.holds Try.pinned (OpenSpec.ofChange spotTakesWrong)

/-- 'coppicerkeep.EndsGrow': WHATEVER THE INPUT: true; the input reads as it did. -/
def endsGrowSpec : ChangeSpec := { name := "endsGrow", fn := fun _ => fun
  | [d1, d2] => { results := [.lit (.bool true)], args := [d1, d2] }
  | _ => none }
def endsGrowRow : OpenClaim := { program := "ytkalcljgcigdgaa", sum := "da8d11631b6468339f90817cfdf2763ef2d94fa1e09e2969ef377a20fa0f5a14", func := "coppicer/coppicerkeep.EndsGrow", spec := "endsGrow", inPlace := ["internal/bytealg.Compare"], unfollowed := true, recurses := true, plainKeys := false, apart := false }
def EndsGrowSaid : Prop := endsGrowRow.holds Try.pinned (OpenSpec.ofChange endsGrowSpec)

/-- ITS FALSE NEIGHBOUR: 'it returns false'. Refute it at one input. -/
def endsGrowWrong : ChangeSpec := { name := "endsGrow", fn := fun _ => fun
  | [d1, d2] => { results := [.lit (.bool false)], args := [d1, d2] }
  | _ => none }
def EndsGrowWrongFalsely : Prop := endsGrowRow.holds Try.pinned (OpenSpec.ofChange endsGrowWrong)

/-- 'coppicerkeep.EndsFew': WHATEVER THE INPUT: true; the input reads as it did. -/
def endsFewSpec : ChangeSpec := { name := "endsFew", fn := fun _ => fun
  | [d1, d2, d3] => { results := [.lit (.bool true)], args := [d1, d2, d3] }
  | _ => none }
def endsFewRow : OpenClaim := { program := "ytkalcljgcigdgaa", sum := "da8d11631b6468339f90817cfdf2763ef2d94fa1e09e2969ef377a20fa0f5a14", func := "coppicer/coppicerkeep.EndsFew", spec := "endsFew", inPlace := ["internal/bytealg.Compare"], unfollowed := true, recurses := true, plainKeys := false, apart := false }
def EndsFewSaid : Prop := endsFewRow.holds Try.pinned (OpenSpec.ofChange endsFewSpec)

/-- ITS FALSE NEIGHBOUR: 'it returns false'. Refute it at one input. -/
def endsFewWrong : ChangeSpec := { name := "endsFew", fn := fun _ => fun
  | [d1, d2, d3] => { results := [.lit (.bool false)], args := [d1, d2, d3] }
  | _ => none }
def EndsFewWrongFalsely : Prop := endsFewRow.holds Try.pinned (OpenSpec.ofChange endsFewWrong)

/-- 'coppicerkeep.ManyAlone': WHATEVER THE INPUT: true; the input reads as it did. -/
def manyAloneSpec : ChangeSpec := { name := "manyAlone", fn := fun _ => fun
  | [d1, d2, d3] => { results := [.lit (.bool true)], args := [d1, d2, d3] }
  | _ => none }
def manyAloneRow : OpenClaim := { program := "ytkalcljgcigdgaa", sum := "da8d11631b6468339f90817cfdf2763ef2d94fa1e09e2969ef377a20fa0f5a14", func := "coppicer/coppicerkeep.ManyAlone", spec := "manyAlone", unfollowed := true, recurses := true, plainKeys := false, apart := false }
def ManyAloneSaid : Prop := manyAloneRow.holds Try.pinned (OpenSpec.ofChange manyAloneSpec)

/-- ITS FALSE NEIGHBOUR: 'it returns false'. Refute it at one input. -/
def manyAloneWrong : ChangeSpec := { name := "manyAlone", fn := fun _ => fun
  | [d1, d2, d3] => { results := [.lit (.bool false)], args := [d1, d2, d3] }
  | _ => none }
def ManyAloneWrongFalsely : Prop := manyAloneRow.holds Try.pinned (OpenSpec.ofChange manyAloneWrong)

/-- 'coppicerkeep.AfterWhole': WHATEVER THE INPUT: true; the input reads as it did. -/
def afterWholeSpec : ChangeSpec := { name := "afterWhole", fn := fun _ => fun
  | [d1, d2, d3] => { results := [.lit (.bool true)], args := [d1, d2, d3] }
  | _ => none }
def afterWholeRow : OpenClaim := { program := "ytkalcljgcigdgaa", sum := "da8d11631b6468339f90817cfdf2763ef2d94fa1e09e2969ef377a20fa0f5a14", func := "coppicer/coppicerkeep.AfterWhole", spec := "afterWhole", inPlace := ["internal/bytealg.abigen_runtime_cmpstring", "internal/abi.NoEscape"], unfollowed := true, recurses := true, plainKeys := false, apart := false }
def AfterWholeSaid : Prop := afterWholeRow.holds Try.pinned (OpenSpec.ofChange afterWholeSpec)

/-- ITS FALSE NEIGHBOUR: 'it returns false'. Refute it at one input. -/
def afterWholeWrong : ChangeSpec := { name := "afterWhole", fn := fun _ => fun
  | [d1, d2, d3] => { results := [.lit (.bool false)], args := [d1, d2, d3] }
  | _ => none }
def AfterWholeWrongFalsely : Prop := afterWholeRow.holds Try.pinned (OpenSpec.ofChange afterWholeWrong)

/-- 'coppicerkeep.AfterSure': WHATEVER THE INPUT: true; the input reads as it did. -/
def afterSureSpec : ChangeSpec := { name := "afterSure", fn := fun _ => fun
  | [d1, d2, d3] => { results := [.lit (.bool true)], args := [d1, d2, d3] }
  | _ => none }
def afterSureRow : OpenClaim := { program := "ytkalcljgcigdgaa", sum := "da8d11631b6468339f90817cfdf2763ef2d94fa1e09e2969ef377a20fa0f5a14", func := "coppicer/coppicerkeep.AfterSure", spec := "afterSure", inPlace := ["internal/bytealg.abigen_runtime_cmpstring", "internal/abi.NoEscape"], unfollowed := true, recurses := true, plainKeys := false, apart := false }
def AfterSureSaid : Prop := afterSureRow.holds Try.pinned (OpenSpec.ofChange afterSureSpec)

/-- ITS FALSE NEIGHBOUR: 'it returns false'. Refute it at one input. -/
def afterSureWrong : ChangeSpec := { name := "afterSure", fn := fun _ => fun
  | [d1, d2, d3] => { results := [.lit (.bool false)], args := [d1, d2, d3] }
  | _ => none }
def AfterSureWrongFalsely : Prop := afterSureRow.holds Try.pinned (OpenSpec.ofChange afterSureWrong)

/-- 'coppicerkeep.SolveBack': WHATEVER THE INPUT: true; the input reads as it did. -/
def solveBackSpec : ChangeSpec := { name := "solveBack", fn := fun _ => fun
  | [d] => { results := [.lit (.bool true)], args := [d] }
  | _ => none }
def solveBackRow : OpenClaim := { program := "ytkalcljgcigdgaa", sum := "da8d11631b6468339f90817cfdf2763ef2d94fa1e09e2969ef377a20fa0f5a14", func := "coppicer/coppicerkeep.SolveBack", spec := "solveBack", inPlace := ["internal/bytealg.abigen_runtime_cmpstring", "internal/abi.NoEscape"], unfollowed := true, recurses := true, plainKeys := false, apart := false }
def SolveBackSaid : Prop := solveBackRow.holds Try.pinned (OpenSpec.ofChange solveBackSpec)

/-- ITS FALSE NEIGHBOUR: 'it returns false'. Refute it at one input. -/
def solveBackWrong : ChangeSpec := { name := "solveBack", fn := fun _ => fun
  | [d] => { results := [.lit (.bool false)], args := [d] }
  | _ => none }
def SolveBackWrongFalsely : Prop := solveBackRow.holds Try.pinned (OpenSpec.ofChange solveBackWrong)

/- THE SECOND FORM. 'bulk': how many values and letters a reading holds, each counted each time it is reached (what is shared counts as often as it is met; a slice's spare places count too). A statement '..UptoSaid' is the law's where the arguments, and the package variables that the reading takes, are together of bulk at most 1048576: NARROWER than '..Said'. Prove '..Said' where nothing that the law and all that it calls make is longer than what came in: it says more and counts as full. Else prove '..UptoSaid'. A law counts once. -/
mutual
def uptoBulk {H : Type} : DataW H → Nat
  | .lit (.string bytes) => bytes.length + 1
  | .lit _ => 1
  | .nil => 1
  | .ptr d => uptoBulk d + 1
  | .slice elems spare => uptoBulkAll elems + uptoBulkAll spare + 1
  | .agg parts => uptoBulkAll parts + 1
  | .iface _ d => uptoBulk d + 1
  | .map entries => uptoBulkEntries entries + 1
  | .held _ => 1
def uptoBulkAll {H : Type} : List (DataW H) → Nat
  | [] => 0
  | d :: r => uptoBulk d + uptoBulkAll r
def uptoBulkEntries {H : Type} : List (Lit × DataW H) → Nat
  | [] => 0
  | x :: r => uptoBulkEntry x + uptoBulkEntries r
def uptoBulkEntry {H : Type} : Lit × DataW H → Nat
  | (.string bytes, d) => bytes.length + uptoBulk d + 1
  | (_, d) => uptoBulk d + 1
 end
def uptoSmall : (H : Type) → List (DataW H) → Bool := fun _ ds => decide (uptoBulkAll ds ≤ 1048576)
def OpenSpec.upto (s : _root_.Go.ChangeSpec) : _root_.Go.OpenSpec := { _root_.Go.OpenSpec.ofChange s with cond := some uptoSmall }

/-- 'coppicerkeep.ManyLongest', WHERE WHAT IT READS IS OF BULK AT MOST 1048576: true; the input reads as it did. -/
def manyLongestUptoRow : OpenClaim := { program := "ytkalcljgcigdgaa", sum := "da8d11631b6468339f90817cfdf2763ef2d94fa1e09e2969ef377a20fa0f5a14", func := "coppicer/coppicerkeep.ManyLongest", spec := "manyLongest", unfollowed := true, recurses := true, plainKeys := false, apart := false, narrowed := true }
def ManyLongestUptoSaid : Prop := manyLongestUptoRow.holds Try.pinned (OpenSpec.upto manyLongestSpec)

/-- 'coppicerkeep.SpotTakes', WHERE WHAT IT READS IS OF BULK AT MOST 1048576: true; the input reads as it did. -/
def spotTakesUptoRow : OpenClaim := { program := "ytkalcljgcigdgaa", sum := "da8d11631b6468339f90817cfdf2763ef2d94fa1e09e2969ef377a20fa0f5a14", func := "coppicer/coppicerkeep.SpotTakes", spec := "spotTakes", unfollowed := true, recurses := true, plainKeys := false, apart := false, narrowed := true }
def SpotTakesUptoSaid : Prop := spotTakesUptoRow.holds Try.pinned (OpenSpec.upto spotTakesSpec)

/-- 'coppicerkeep.EndsGrow', WHERE WHAT IT READS IS OF BULK AT MOST 1048576: true; the input reads as it did. -/
def endsGrowUptoRow : OpenClaim := { program := "ytkalcljgcigdgaa", sum := "da8d11631b6468339f90817cfdf2763ef2d94fa1e09e2969ef377a20fa0f5a14", func := "coppicer/coppicerkeep.EndsGrow", spec := "endsGrow", inPlace := ["internal/bytealg.Compare"], unfollowed := true, recurses := true, plainKeys := false, apart := false, narrowed := true }
def EndsGrowUptoSaid : Prop := endsGrowUptoRow.holds Try.pinned (OpenSpec.upto endsGrowSpec)

/-- 'coppicerkeep.EndsFew', WHERE WHAT IT READS IS OF BULK AT MOST 1048576: true; the input reads as it did. -/
def endsFewUptoRow : OpenClaim := { program := "ytkalcljgcigdgaa", sum := "da8d11631b6468339f90817cfdf2763ef2d94fa1e09e2969ef377a20fa0f5a14", func := "coppicer/coppicerkeep.EndsFew", spec := "endsFew", inPlace := ["internal/bytealg.Compare"], unfollowed := true, recurses := true, plainKeys := false, apart := false, narrowed := true }
def EndsFewUptoSaid : Prop := endsFewUptoRow.holds Try.pinned (OpenSpec.upto endsFewSpec)

/-- 'coppicerkeep.ManyAlone', WHERE WHAT IT READS IS OF BULK AT MOST 1048576: true; the input reads as it did. -/
def manyAloneUptoRow : OpenClaim := { program := "ytkalcljgcigdgaa", sum := "da8d11631b6468339f90817cfdf2763ef2d94fa1e09e2969ef377a20fa0f5a14", func := "coppicer/coppicerkeep.ManyAlone", spec := "manyAlone", unfollowed := true, recurses := true, plainKeys := false, apart := false, narrowed := true }
def ManyAloneUptoSaid : Prop := manyAloneUptoRow.holds Try.pinned (OpenSpec.upto manyAloneSpec)

/-- 'coppicerkeep.AfterWhole', WHERE WHAT IT READS IS OF BULK AT MOST 1048576: true; the input reads as it did. -/
def afterWholeUptoRow : OpenClaim := { program := "ytkalcljgcigdgaa", sum := "da8d11631b6468339f90817cfdf2763ef2d94fa1e09e2969ef377a20fa0f5a14", func := "coppicer/coppicerkeep.AfterWhole", spec := "afterWhole", inPlace := ["internal/bytealg.abigen_runtime_cmpstring", "internal/abi.NoEscape"], unfollowed := true, recurses := true, plainKeys := false, apart := false, narrowed := true }
def AfterWholeUptoSaid : Prop := afterWholeUptoRow.holds Try.pinned (OpenSpec.upto afterWholeSpec)

/-- 'coppicerkeep.AfterSure', WHERE WHAT IT READS IS OF BULK AT MOST 1048576: true; the input reads as it did. -/
def afterSureUptoRow : OpenClaim := { program := "ytkalcljgcigdgaa", sum := "da8d11631b6468339f90817cfdf2763ef2d94fa1e09e2969ef377a20fa0f5a14", func := "coppicer/coppicerkeep.AfterSure", spec := "afterSure", inPlace := ["internal/bytealg.abigen_runtime_cmpstring", "internal/abi.NoEscape"], unfollowed := true, recurses := true, plainKeys := false, apart := false, narrowed := true }
def AfterSureUptoSaid : Prop := afterSureUptoRow.holds Try.pinned (OpenSpec.upto afterSureSpec)

/-- 'coppicerkeep.SolveBack', WHERE WHAT IT READS IS OF BULK AT MOST 1048576: true; the input reads as it did. -/
def solveBackUptoRow : OpenClaim := { program := "ytkalcljgcigdgaa", sum := "da8d11631b6468339f90817cfdf2763ef2d94fa1e09e2969ef377a20fa0f5a14", func := "coppicer/coppicerkeep.SolveBack", spec := "solveBack", inPlace := ["internal/bytealg.abigen_runtime_cmpstring", "internal/abi.NoEscape"], unfollowed := true, recurses := true, plainKeys := false, apart := false, narrowed := true }
def SolveBackUptoSaid : Prop := solveBackUptoRow.holds Try.pinned (OpenSpec.upto solveBackSpec)

end Rows
end Go.Proofs.Ytkalcljgcigdgaa
