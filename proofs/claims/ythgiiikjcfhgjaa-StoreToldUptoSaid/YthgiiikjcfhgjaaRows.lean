/-
  No cell of these rows narrows 'for every input' (looked for: loops, veiled, ifaces, maps, wideKeys, modest, calm, conditions, laid).
  DERIVED. THE GIVEN ROWS OF THIS SEAT. 12 by the template 'for every input the law returns true; each argument reads behind the call as it read before'; 0 by the template 'total and deterministic' (their statements: YthgiiikjcfhgjaaTotals.lean).
  GIVEN WITH THE SEED: the statements are not yours to turn. If you find one false, say at which input.
  Laid BY PROGRAM, IN A SANDBOX (cutbox-rows.mjs): the forced cells as the released guide's own fill.sh prints them over the translation 8cba86ffde4b3409… (all of the seat's roots in one cut). By AI agents, Wed Nov 11 2026. No macro, syntax, notation, axiom, sorry.
-/
import Derived.Test.YthgiiikjcfhgjaaChecked
import GoSem.Claim
import GoSem.ClaimJoined
import GoSem.ClaimMapViews
import Derived.JoinedTies
import Derived.KernelRfl
namespace Go.Proofs.Ythgiiikjcfhgjaa
/- THE CELL 'sum', in the pinned program and in every row, IS THE sha256 OF THE DUMP (.gsa) THAT YthgiiikjcfhgjaaProg.lean LOADS. Nothing in Lean hashes anything: it is a label: what it is worth is what the hold of that sum in a sandbox is worth. -/
noncomputable def Try.pinned : Pinned := { name := "ythgiiikjcfhgjaa", sum := "8cba86ffde4b34094125a9b05691334745c6214459de9fdd329d6c564812ddc0", checked := Try.checked }
namespace Rows
def none {H : Type} : Left H := { results := [], args := [] }

/-- 'coppicerkeep.ClimbMarks': WHATEVER THE INPUT: true; the input reads as it did. -/
def climbMarksSpec : ChangeSpec := { name := "climbMarks", fn := fun _ => fun
  | [d1, d2] => { results := [.lit (.bool true)], args := [d1, d2] }
  | _ => none }
def climbMarksRow : OpenClaim := { program := "ythgiiikjcfhgjaa", sum := "8cba86ffde4b34094125a9b05691334745c6214459de9fdd329d6c564812ddc0", func := "coppicer/coppicerkeep.ClimbMarks", spec := "climbMarks", unfollowed := true, recurses := true, plainKeys := false, apart := false }
def ClimbMarksSaid : Prop := climbMarksRow.holds Try.pinned (OpenSpec.ofChange climbMarksSpec)

/-- ITS FALSE NEIGHBOUR: 'it returns false'. Refute it at one input. -/
def climbMarksWrong : ChangeSpec := { name := "climbMarks", fn := fun _ => fun
  | [d1, d2] => { results := [.lit (.bool false)], args := [d1, d2] }
  | _ => none }
def ClimbMarksWrongFalsely : Prop := climbMarksRow.holds Try.pinned (OpenSpec.ofChange climbMarksWrong)

/-- 'coppicerkeep.ManyLongest': WHATEVER THE INPUT: true; the input reads as it did. -/
def manyLongestSpec : ChangeSpec := { name := "manyLongest", fn := fun _ => fun
  | [d1, d2] => { results := [.lit (.bool true)], args := [d1, d2] }
  | _ => none }
def manyLongestRow : OpenClaim := { program := "ythgiiikjcfhgjaa", sum := "8cba86ffde4b34094125a9b05691334745c6214459de9fdd329d6c564812ddc0", func := "coppicer/coppicerkeep.ManyLongest", spec := "manyLongest", unfollowed := true, recurses := true, plainKeys := false, apart := false }
def ManyLongestSaid : Prop := manyLongestRow.holds Try.pinned (OpenSpec.ofChange manyLongestSpec)

/-- ITS FALSE NEIGHBOUR: 'it returns false'. Refute it at one input. -/
def manyLongestWrong : ChangeSpec := { name := "manyLongest", fn := fun _ => fun
  | [d1, d2] => { results := [.lit (.bool false)], args := [d1, d2] }
  | _ => none }
def ManyLongestWrongFalsely : Prop := manyLongestRow.holds Try.pinned (OpenSpec.ofChange manyLongestWrong)

/-- 'coppicerkeep.ClimbBack': WHATEVER THE INPUT: true; the input reads as it did. -/
def climbBackSpec : ChangeSpec := { name := "climbBack", fn := fun _ => fun
  | [d1, d2] => { results := [.lit (.bool true)], args := [d1, d2] }
  | _ => none }
def climbBackRow : OpenClaim := { program := "ythgiiikjcfhgjaa", sum := "8cba86ffde4b34094125a9b05691334745c6214459de9fdd329d6c564812ddc0", func := "coppicer/coppicerkeep.ClimbBack", spec := "climbBack", unfollowed := true, recurses := true, plainKeys := false, apart := false }
def ClimbBackSaid : Prop := climbBackRow.holds Try.pinned (OpenSpec.ofChange climbBackSpec)

/-- ITS FALSE NEIGHBOUR: 'it returns false'. Refute it at one input. -/
def climbBackWrong : ChangeSpec := { name := "climbBack", fn := fun _ => fun
  | [d1, d2] => { results := [.lit (.bool false)], args := [d1, d2] }
  | _ => none }
def ClimbBackWrongFalsely : Prop := climbBackRow.holds Try.pinned (OpenSpec.ofChange climbBackWrong)

/-- 'coppicerkeep.ClimbShort': WHATEVER THE INPUT: true; the input reads as it did. -/
def climbShortSpec : ChangeSpec := { name := "climbShort", fn := fun _ => fun
  | [d1, d2] => { results := [.lit (.bool true)], args := [d1, d2] }
  | _ => none }
def climbShortRow : OpenClaim := { program := "ythgiiikjcfhgjaa", sum := "8cba86ffde4b34094125a9b05691334745c6214459de9fdd329d6c564812ddc0", func := "coppicer/coppicerkeep.ClimbShort", spec := "climbShort", unfollowed := true, recurses := true, plainKeys := false, apart := false }
def ClimbShortSaid : Prop := climbShortRow.holds Try.pinned (OpenSpec.ofChange climbShortSpec)

/-- ITS FALSE NEIGHBOUR: 'it returns false'. Refute it at one input. -/
def climbShortWrong : ChangeSpec := { name := "climbShort", fn := fun _ => fun
  | [d1, d2] => { results := [.lit (.bool false)], args := [d1, d2] }
  | _ => none }
def ClimbShortWrongFalsely : Prop := climbShortRow.holds Try.pinned (OpenSpec.ofChange climbShortWrong)

/-- 'coppicerkeep.StoreBack': WHATEVER THE INPUT: true; the input reads as it did. -/
def storeBackSpec : ChangeSpec := { name := "storeBack", fn := fun _ => fun
  | [d1, d2] => { results := [.lit (.bool true)], args := [d1, d2] }
  | _ => none }
def storeBackRow : OpenClaim := { program := "ythgiiikjcfhgjaa", sum := "8cba86ffde4b34094125a9b05691334745c6214459de9fdd329d6c564812ddc0", func := "coppicer/coppicerkeep.StoreBack", spec := "storeBack", unfollowed := true, recurses := true, plainKeys := false, apart := false }
def StoreBackSaid : Prop := storeBackRow.holds Try.pinned (OpenSpec.ofChange storeBackSpec)

/-- ITS FALSE NEIGHBOUR: 'it returns false'. Refute it at one input. -/
def storeBackWrong : ChangeSpec := { name := "storeBack", fn := fun _ => fun
  | [d1, d2] => { results := [.lit (.bool false)], args := [d1, d2] }
  | _ => none }
def StoreBackWrongFalsely : Prop := storeBackRow.holds Try.pinned (OpenSpec.ofChange storeBackWrong)

/-- 'coppicerkeep.StoreTold': WHATEVER THE INPUT: true; the input reads as it did. -/
def storeToldSpec : ChangeSpec := { name := "storeTold", fn := fun _ => fun
  | [d1, d2, d3, d4] => { results := [.lit (.bool true)], args := [d1, d2, d3, d4] }
  | _ => none }
def storeToldRow : OpenClaim := { program := "ythgiiikjcfhgjaa", sum := "8cba86ffde4b34094125a9b05691334745c6214459de9fdd329d6c564812ddc0", func := "coppicer/coppicerkeep.StoreTold", spec := "storeTold", unfollowed := true, recurses := true, plainKeys := false, apart := false }
def StoreToldSaid : Prop := storeToldRow.holds Try.pinned (OpenSpec.ofChange storeToldSpec)

/-- ITS FALSE NEIGHBOUR: 'it returns false'. Refute it at one input. -/
def storeToldWrong : ChangeSpec := { name := "storeTold", fn := fun _ => fun
  | [d1, d2, d3, d4] => { results := [.lit (.bool false)], args := [d1, d2, d3, d4] }
  | _ => none }
def StoreToldWrongFalsely : Prop := storeToldRow.holds Try.pinned (OpenSpec.ofChange storeToldWrong)

/-- 'coppicerkeep.TableTree': WHATEVER THE INPUT: true; the input reads as it did. -/
def tableTreeSpec : ChangeSpec := { name := "tableTree", fn := fun _ => fun
  | [d1, d2] => { results := [.lit (.bool true)], args := [d1, d2] }
  | _ => none }
def tableTreeRow : OpenClaim := { program := "ythgiiikjcfhgjaa", sum := "8cba86ffde4b34094125a9b05691334745c6214459de9fdd329d6c564812ddc0", func := "coppicer/coppicerkeep.TableTree", spec := "tableTree", unfollowed := true, recurses := true, plainKeys := false, apart := false }
def TableTreeSaid : Prop := tableTreeRow.holds Try.pinned (OpenSpec.ofChange tableTreeSpec)

/-- ITS FALSE NEIGHBOUR: 'it returns false'. Refute it at one input. -/
def tableTreeWrong : ChangeSpec := { name := "tableTree", fn := fun _ => fun
  | [d1, d2] => { results := [.lit (.bool false)], args := [d1, d2] }
  | _ => none }
def TableTreeWrongFalsely : Prop := tableTreeRow.holds Try.pinned (OpenSpec.ofChange tableTreeWrong)

/-- 'coppicerkeep.PlainLong': WHATEVER THE INPUT: true; the input reads as it did. -/
def plainLongSpec : ChangeSpec := { name := "plainLong", fn := fun _ => fun
  | [d1, d2] => { results := [.lit (.bool true)], args := [d1, d2] }
  | _ => none }
def plainLongRow : OpenClaim := { program := "ythgiiikjcfhgjaa", sum := "8cba86ffde4b34094125a9b05691334745c6214459de9fdd329d6c564812ddc0", func := "coppicer/coppicerkeep.PlainLong", spec := "plainLong", unfollowed := true, recurses := true, plainKeys := false, apart := false }
def PlainLongSaid : Prop := plainLongRow.holds Try.pinned (OpenSpec.ofChange plainLongSpec)

/-- ITS FALSE NEIGHBOUR: 'it returns false'. Refute it at one input. -/
def plainLongWrong : ChangeSpec := { name := "plainLong", fn := fun _ => fun
  | [d1, d2] => { results := [.lit (.bool false)], args := [d1, d2] }
  | _ => none }
def PlainLongWrongFalsely : Prop := plainLongRow.holds Try.pinned (OpenSpec.ofChange plainLongWrong)

/-- 'coppicerkeep.LeastApart': WHATEVER THE INPUT: true; the input reads as it did. -/
def leastApartSpec : ChangeSpec := { name := "leastApart", fn := fun _ => fun
  | [d1, d2, d3] => { results := [.lit (.bool true)], args := [d1, d2, d3] }
  | _ => none }
def leastApartRow : OpenClaim := { program := "ythgiiikjcfhgjaa", sum := "8cba86ffde4b34094125a9b05691334745c6214459de9fdd329d6c564812ddc0", func := "coppicer/coppicerkeep.LeastApart", spec := "leastApart", unfollowed := true, recurses := true, plainKeys := false, apart := false }
def LeastApartSaid : Prop := leastApartRow.holds Try.pinned (OpenSpec.ofChange leastApartSpec)

/-- ITS FALSE NEIGHBOUR: 'it returns false'. Refute it at one input. -/
def leastApartWrong : ChangeSpec := { name := "leastApart", fn := fun _ => fun
  | [d1, d2, d3] => { results := [.lit (.bool false)], args := [d1, d2, d3] }
  | _ => none }
def LeastApartWrongFalsely : Prop := leastApartRow.holds Try.pinned (OpenSpec.ofChange leastApartWrong)

/-- 'coppicerkeep.PlainSmall': WHATEVER THE INPUT: true; the input reads as it did. -/
def plainSmallSpec : ChangeSpec := { name := "plainSmall", fn := fun _ => fun
  | [d1, d2] => { results := [.lit (.bool true)], args := [d1, d2] }
  | _ => none }
def plainSmallRow : OpenClaim := { program := "ythgiiikjcfhgjaa", sum := "8cba86ffde4b34094125a9b05691334745c6214459de9fdd329d6c564812ddc0", func := "coppicer/coppicerkeep.PlainSmall", spec := "plainSmall", unfollowed := true, recurses := true, plainKeys := false, apart := false }
def PlainSmallSaid : Prop := plainSmallRow.holds Try.pinned (OpenSpec.ofChange plainSmallSpec)

/-- ITS FALSE NEIGHBOUR: 'it returns false'. Refute it at one input. -/
def plainSmallWrong : ChangeSpec := { name := "plainSmall", fn := fun _ => fun
  | [d1, d2] => { results := [.lit (.bool false)], args := [d1, d2] }
  | _ => none }
def PlainSmallWrongFalsely : Prop := plainSmallRow.holds Try.pinned (OpenSpec.ofChange plainSmallWrong)

/-- 'coppicerkeep.SpotTakes': WHATEVER THE INPUT: true; the input reads as it did. -/
def spotTakesSpec : ChangeSpec := { name := "spotTakes", fn := fun _ => fun
  | [d1, d2, d3] => { results := [.lit (.bool true)], args := [d1, d2, d3] }
  | _ => none }
def spotTakesRow : OpenClaim := { program := "ythgiiikjcfhgjaa", sum := "8cba86ffde4b34094125a9b05691334745c6214459de9fdd329d6c564812ddc0", func := "coppicer/coppicerkeep.SpotTakes", spec := "spotTakes", unfollowed := true, recurses := true, plainKeys := false, apart := false }
def SpotTakesSaid : Prop := spotTakesRow.holds Try.pinned (OpenSpec.ofChange spotTakesSpec)

/-- ITS FALSE NEIGHBOUR: 'it returns false'. Refute it at one input. -/
def spotTakesWrong : ChangeSpec := { name := "spotTakes", fn := fun _ => fun
  | [d1, d2, d3] => { results := [.lit (.bool false)], args := [d1, d2, d3] }
  | _ => none }
def SpotTakesWrongFalsely : Prop := spotTakesRow.holds Try.pinned (OpenSpec.ofChange spotTakesWrong)

/-- 'coppicerkeep.EndsRise': WHATEVER THE INPUT: true; the input reads as it did. -/
def endsRiseSpec : ChangeSpec := { name := "endsRise", fn := fun _ => fun
  | [d] => { results := [.lit (.bool true)], args := [d] }
  | _ => none }
def endsRiseRow : OpenClaim := { program := "ythgiiikjcfhgjaa", sum := "8cba86ffde4b34094125a9b05691334745c6214459de9fdd329d6c564812ddc0", func := "coppicer/coppicerkeep.EndsRise", spec := "endsRise", inPlace := ["internal/bytealg.Compare"], unfollowed := true, recurses := true, plainKeys := false, apart := false }
def EndsRiseSaid : Prop := endsRiseRow.holds Try.pinned (OpenSpec.ofChange endsRiseSpec)

/-- ITS FALSE NEIGHBOUR: 'it returns false'. Refute it at one input. -/
def endsRiseWrong : ChangeSpec := { name := "endsRise", fn := fun _ => fun
  | [d] => { results := [.lit (.bool false)], args := [d] }
  | _ => none }
def EndsRiseWrongFalsely : Prop := endsRiseRow.holds Try.pinned (OpenSpec.ofChange endsRiseWrong)

/- THE SECOND FORM. 'bulk': how many values and letters a reading holds, each counted each time it is reached (what is shared counts as often as it is met; a slice's spare places count too). A statement '..UptoSaid' is the law's where the arguments, and the package variables that the reading takes, are together of bulk at most 1048576: NARROWER than '..Said'. Prove '..Said' where nothing that the law and all that it calls make is longer than what came in: it says more and counts as full. Else prove '..UptoSaid'. A law counts once. -/
mutual
def uptoBulk {H : Type} : DataW H → Nat
  | .lit (.string bytes) => bytes.length + 1
  | .lit _ => 1
  | .nil => 1
  | .ptr d => uptoBulk d + 1
  | .slice elems spare => uptoBulkAll elems + uptoBulkAll spare + 1
  | .agg parts => uptoBulkAll parts + 1
  | .iface _ d => uptoBulk d + 1
  | .map entries => uptoBulkEntries entries + 1
  | .held _ => 1
def uptoBulkAll {H : Type} : List (DataW H) → Nat
  | [] => 0
  | d :: r => uptoBulk d + uptoBulkAll r
def uptoBulkEntries {H : Type} : List (Lit × DataW H) → Nat
  | [] => 0
  | x :: r => uptoBulkEntry x + uptoBulkEntries r
def uptoBulkEntry {H : Type} : Lit × DataW H → Nat
  | (.string bytes, d) => bytes.length + uptoBulk d + 1
  | (_, d) => uptoBulk d + 1
 end
def uptoSmall : (H : Type) → List (DataW H) → Bool := fun _ ds => decide (uptoBulkAll ds ≤ 1048576)
def OpenSpec.upto (s : _root_.Go.ChangeSpec) : _root_.Go.OpenSpec := { _root_.Go.OpenSpec.ofChange s with cond := some uptoSmall }

/-- 'coppicerkeep.ClimbMarks', WHERE WHAT IT READS IS OF BULK AT MOST 1048576: true; the input reads as it did. -/
def climbMarksUptoRow : OpenClaim := { program := "ythgiiikjcfhgjaa", sum := "8cba86ffde4b34094125a9b05691334745c6214459de9fdd329d6c564812ddc0", func := "coppicer/coppicerkeep.ClimbMarks", spec := "climbMarks", unfollowed := true, recurses := true, plainKeys := false, apart := false, narrowed := true }
def ClimbMarksUptoSaid : Prop := climbMarksUptoRow.holds Try.pinned (OpenSpec.upto climbMarksSpec)

/-- 'coppicerkeep.ManyLongest', WHERE WHAT IT READS IS OF BULK AT MOST 1048576: true; the input reads as it did. -/
def manyLongestUptoRow : OpenClaim := { program := "ythgiiikjcfhgjaa", sum := "8cba86ffde4b34094125a9b05691334745c6214459de9fdd329d6c564812ddc0", func := "coppicer/coppicerkeep.ManyLongest", spec := "manyLongest", unfollowed := true, recurses := true, plainKeys := false, apart := false, narrowed := true }
def ManyLongestUptoSaid : Prop := manyLongestUptoRow.holds Try.pinned (OpenSpec.upto manyLongestSpec)

/-- 'coppicerkeep.ClimbBack', WHERE WHAT IT READS IS OF BULK AT MOST 1048576: true; the input reads as it did. -/
def climbBackUptoRow : OpenClaim := { program := "ythgiiikjcfhgjaa", sum := "8cba86ffde4b34094125a9b05691334745c6214459de9fdd329d6c564812ddc0", func := "coppicer/coppicerkeep.ClimbBack", spec := "climbBack", unfollowed := true, recurses := true, plainKeys := false, apart := false, narrowed := true }
def ClimbBackUptoSaid : Prop := climbBackUptoRow.holds Try.pinned (OpenSpec.upto climbBackSpec)

/-- 'coppicerkeep.ClimbShort', WHERE WHAT IT READS IS OF BULK AT MOST 1048576: true; the input reads as it did. -/
def climbShortUptoRow : OpenClaim := { program := "ythgiiikjcfhgjaa", sum := "8cba86ffde4b34094125a9b05691334745c6214459de9fdd329d6c564812ddc0", func := "coppicer/coppicerkeep.ClimbShort", spec := "climbShort", unfollowed := true, recurses := true, plainKeys := false, apart := false, narrowed := true }
def ClimbShortUptoSaid : Prop := climbShortUptoRow.holds Try.pinned (OpenSpec.upto climbShortSpec)

/-- 'coppicerkeep.StoreBack', WHERE WHAT IT READS IS OF BULK AT MOST 1048576: true; the input reads as it did. -/
def storeBackUptoRow : OpenClaim := { program := "ythgiiikjcfhgjaa", sum := "8cba86ffde4b34094125a9b05691334745c6214459de9fdd329d6c564812ddc0", func := "coppicer/coppicerkeep.StoreBack", spec := "storeBack", unfollowed := true, recurses := true, plainKeys := false, apart := false, narrowed := true }
def StoreBackUptoSaid : Prop := storeBackUptoRow.holds Try.pinned (OpenSpec.upto storeBackSpec)

/-- 'coppicerkeep.StoreTold', WHERE WHAT IT READS IS OF BULK AT MOST 1048576: true; the input reads as it did. -/
def storeToldUptoRow : OpenClaim := { program := "ythgiiikjcfhgjaa", sum := "8cba86ffde4b34094125a9b05691334745c6214459de9fdd329d6c564812ddc0", func := "coppicer/coppicerkeep.StoreTold", spec := "storeTold", unfollowed := true, recurses := true, plainKeys := false, apart := false, narrowed := true }
def StoreToldUptoSaid : Prop := storeToldUptoRow.holds Try.pinned (OpenSpec.upto storeToldSpec)

/-- 'coppicerkeep.TableTree', WHERE WHAT IT READS IS OF BULK AT MOST 1048576: true; the input reads as it did. -/
def tableTreeUptoRow : OpenClaim := { program := "ythgiiikjcfhgjaa", sum := "8cba86ffde4b34094125a9b05691334745c6214459de9fdd329d6c564812ddc0", func := "coppicer/coppicerkeep.TableTree", spec := "tableTree", unfollowed := true, recurses := true, plainKeys := false, apart := false, narrowed := true }
def TableTreeUptoSaid : Prop := tableTreeUptoRow.holds Try.pinned (OpenSpec.upto tableTreeSpec)

/-- 'coppicerkeep.PlainLong', WHERE WHAT IT READS IS OF BULK AT MOST 1048576: true; the input reads as it did. -/
def plainLongUptoRow : OpenClaim := { program := "ythgiiikjcfhgjaa", sum := "8cba86ffde4b34094125a9b05691334745c6214459de9fdd329d6c564812ddc0", func := "coppicer/coppicerkeep.PlainLong", spec := "plainLong", unfollowed := true, recurses := true, plainKeys := false, apart := false, narrowed := true }
def PlainLongUptoSaid : Prop := plainLongUptoRow.holds Try.pinned (OpenSpec.upto plainLongSpec)

/-- 'coppicerkeep.LeastApart', WHERE WHAT IT READS IS OF BULK AT MOST 1048576: true; the input reads as it did. -/
def leastApartUptoRow : OpenClaim := { program := "ythgiiikjcfhgjaa", sum := "8cba86ffde4b34094125a9b05691334745c6214459de9fdd329d6c564812ddc0", func := "coppicer/coppicerkeep.LeastApart", spec := "leastApart", unfollowed := true, recurses := true, plainKeys := false, apart := false, narrowed := true }
def LeastApartUptoSaid : Prop := leastApartUptoRow.holds Try.pinned (OpenSpec.upto leastApartSpec)

/-- 'coppicerkeep.PlainSmall', WHERE WHAT IT READS IS OF BULK AT MOST 1048576: true; the input reads as it did. -/
def plainSmallUptoRow : OpenClaim := { program := "ythgiiikjcfhgjaa", sum := "8cba86ffde4b34094125a9b05691334745c6214459de9fdd329d6c564812ddc0", func := "coppicer/coppicerkeep.PlainSmall", spec := "plainSmall", unfollowed := true, recurses := true, plainKeys := false, apart := false, narrowed := true }
def PlainSmallUptoSaid : Prop := plainSmallUptoRow.holds Try.pinned (OpenSpec.upto plainSmallSpec)

/-- 'coppicerkeep.SpotTakes', WHERE WHAT IT READS IS OF BULK AT MOST 1048576: true; the input reads as it did. -/
def spotTakesUptoRow : OpenClaim := { program := "ythgiiikjcfhgjaa", sum := "8cba86ffde4b34094125a9b05691334745c6214459de9fdd329d6c564812ddc0", func := "coppicer/coppicerkeep.SpotTakes", spec := "spotTakes", unfollowed := true, recurses := true, plainKeys := false, apart := false, narrowed := true }
def SpotTakesUptoSaid : Prop := spotTakesUptoRow.holds Try.pinned (OpenSpec.upto spotTakesSpec)

/-- 'coppicerkeep.EndsRise', WHERE WHAT IT READS IS OF BULK AT MOST 1048576: true; the input reads as it did. -/
def endsRiseUptoRow : OpenClaim := { program := "ythgiiikjcfhgjaa", sum := "8cba86ffde4b34094125a9b05691334745c6214459de9fdd329d6c564812ddc0", func := "coppicer/coppicerkeep.EndsRise", spec := "endsRise", inPlace := ["internal/bytealg.Compare"], unfollowed := true, recurses := true, plainKeys := false, apart := false, narrowed := true }
def EndsRiseUptoSaid : Prop := endsRiseUptoRow.holds Try.pinned (OpenSpec.upto endsRiseSpec)

end Rows
end Go.Proofs.Ythgiiikjcfhgjaa
