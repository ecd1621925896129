/-
  No cell of these rows narrows 'for every input' (looked for: loops, veiled, ifaces, maps, wideKeys, modest, calm, conditions, laid).
  DERIVED. THE GIVEN ROWS OF THIS SEAT. 12 by the template 'for every input the law returns true; each argument reads behind the call as it read before'; 0 by the template 'total and deterministic' (their statements: YtkjhddjenkocjaaTotals.lean).
  GIVEN WITH THE SEED: the statements are not yours to turn. If you find one false, say at which input.
  Laid BY PROGRAM, IN A SANDBOX (cutbox-rows.mjs): the forced cells as the released guide's own fill.sh prints them over the translation 48d6d570adfdfb3a… (all of the seat's roots in one cut). By AI agents, Wed Nov 11 2026. No macro, syntax, notation, axiom, sorry.
-/
import Derived.Test.YtkjhddjenkocjaaChecked
import GoSem.Claim
import GoSem.ClaimJoined
import GoSem.ClaimMapViews
import Derived.JoinedTies
import Derived.KernelRfl
namespace Go.Proofs.Ytkjhddjenkocjaa
/- THE CELL 'sum', in the pinned program and in every row, IS THE sha256 OF THE DUMP (.gsa) THAT YtkjhddjenkocjaaProg.lean LOADS. Nothing in Lean hashes anything: it is a label: what it is worth is what the hold of that sum in a sandbox is worth. -/
noncomputable def Try.pinned : Pinned := { name := "ytkjhddjenkocjaa", sum := "48d6d570adfdfb3a747278ec7c49f21d14bec096710a839bf781d239d7ce450e", checked := Try.checked }
namespace Rows
def none {H : Type} : Left H := { results := [], args := [] }

/-- 'coppicerkeep.SentenceStar': WHATEVER THE INPUT: true; the input reads as it did. -/
def sentenceStarSpec : ChangeSpec := { name := "sentenceStar", fn := fun _ => fun
  | [d1, d2, d3] => { results := [.lit (.bool true)], args := [d1, d2, d3] }
  | _ => none }
def sentenceStarRow : OpenClaim := { program := "ytkjhddjenkocjaa", sum := "48d6d570adfdfb3a747278ec7c49f21d14bec096710a839bf781d239d7ce450e", func := "coppicer/coppicerkeep.SentenceStar", spec := "sentenceStar", unfollowed := true, recurses := true, plainKeys := false, apart := false }
def SentenceStarSaid : Prop := sentenceStarRow.holds Try.pinned (OpenSpec.ofChange sentenceStarSpec)

/-- ITS FALSE NEIGHBOUR: 'it returns false'. Refute it at one input. -/
def sentenceStarWrong : ChangeSpec := { name := "sentenceStar", fn := fun _ => fun
  | [d1, d2, d3] => { results := [.lit (.bool false)], args := [d1, d2, d3] }
  | _ => none }
def SentenceStarWrongFalsely : Prop := sentenceStarRow.holds Try.pinned (OpenSpec.ofChange sentenceStarWrong)

/-- 'coppicerkeep.SentenceBack': WHATEVER THE INPUT: true; the input reads as it did. -/
def sentenceBackSpec : ChangeSpec := { name := "sentenceBack", fn := fun _ => fun
  | [d1, d2, d3] => { results := [.lit (.bool true)], args := [d1, d2, d3] }
  | _ => none }
def sentenceBackRow : OpenClaim := { program := "ytkjhddjenkocjaa", sum := "48d6d570adfdfb3a747278ec7c49f21d14bec096710a839bf781d239d7ce450e", func := "coppicer/coppicerkeep.SentenceBack", spec := "sentenceBack", unfollowed := true, recurses := true, plainKeys := false, apart := false }
def SentenceBackSaid : Prop := sentenceBackRow.holds Try.pinned (OpenSpec.ofChange sentenceBackSpec)

/-- ITS FALSE NEIGHBOUR: 'it returns false'. Refute it at one input. -/
def sentenceBackWrong : ChangeSpec := { name := "sentenceBack", fn := fun _ => fun
  | [d1, d2, d3] => { results := [.lit (.bool false)], args := [d1, d2, d3] }
  | _ => none }
def SentenceBackWrongFalsely : Prop := sentenceBackRow.holds Try.pinned (OpenSpec.ofChange sentenceBackWrong)

/-- 'coppicerkeep.KindsSame': WHATEVER THE INPUT: true; the input reads as it did. -/
def kindsSameSpec : ChangeSpec := { name := "kindsSame", fn := fun _ => fun
  | [d1, d2, d3, d4, d5] => { results := [.lit (.bool true)], args := [d1, d2, d3, d4, d5] }
  | _ => none }
def kindsSameRow : OpenClaim := { program := "ytkjhddjenkocjaa", sum := "48d6d570adfdfb3a747278ec7c49f21d14bec096710a839bf781d239d7ce450e", func := "coppicer/coppicerkeep.KindsSame", spec := "kindsSame", unfollowed := true, recurses := true, plainKeys := false, apart := false }
def KindsSameSaid : Prop := kindsSameRow.holds Try.pinned (OpenSpec.ofChange kindsSameSpec)

/-- ITS FALSE NEIGHBOUR: 'it returns false'. Refute it at one input. -/
def kindsSameWrong : ChangeSpec := { name := "kindsSame", fn := fun _ => fun
  | [d1, d2, d3, d4, d5] => { results := [.lit (.bool false)], args := [d1, d2, d3, d4, d5] }
  | _ => none }
def KindsSameWrongFalsely : Prop := kindsSameRow.holds Try.pinned (OpenSpec.ofChange kindsSameWrong)

/-- 'coppicerkeep.KindsStill': WHATEVER THE INPUT: true; the input reads as it did. -/
def kindsStillSpec : ChangeSpec := { name := "kindsStill", fn := fun _ => fun
  | [d1, d2] => { results := [.lit (.bool true)], args := [d1, d2] }
  | _ => none }
def kindsStillRow : OpenClaim := { program := "ytkjhddjenkocjaa", sum := "48d6d570adfdfb3a747278ec7c49f21d14bec096710a839bf781d239d7ce450e", func := "coppicer/coppicerkeep.KindsStill", spec := "kindsStill", unfollowed := true, recurses := true, plainKeys := false, apart := false }
def KindsStillSaid : Prop := kindsStillRow.holds Try.pinned (OpenSpec.ofChange kindsStillSpec)

/-- ITS FALSE NEIGHBOUR: 'it returns false'. Refute it at one input. -/
def kindsStillWrong : ChangeSpec := { name := "kindsStill", fn := fun _ => fun
  | [d1, d2] => { results := [.lit (.bool false)], args := [d1, d2] }
  | _ => none }
def KindsStillWrongFalsely : Prop := kindsStillRow.holds Try.pinned (OpenSpec.ofChange kindsStillWrong)

/-- 'coppicerkeep.LeastApart': WHATEVER THE INPUT: true; the input reads as it did. -/
def leastApartSpec : ChangeSpec := { name := "leastApart", fn := fun _ => fun
  | [d1, d2, d3] => { results := [.lit (.bool true)], args := [d1, d2, d3] }
  | _ => none }
def leastApartRow : OpenClaim := { program := "ytkjhddjenkocjaa", sum := "48d6d570adfdfb3a747278ec7c49f21d14bec096710a839bf781d239d7ce450e", func := "coppicer/coppicerkeep.LeastApart", spec := "leastApart", unfollowed := true, recurses := true, plainKeys := false, apart := false }
def LeastApartSaid : Prop := leastApartRow.holds Try.pinned (OpenSpec.ofChange leastApartSpec)

/-- ITS FALSE NEIGHBOUR: 'it returns false'. Refute it at one input. -/
def leastApartWrong : ChangeSpec := { name := "leastApart", fn := fun _ => fun
  | [d1, d2, d3] => { results := [.lit (.bool false)], args := [d1, d2, d3] }
  | _ => none }
def LeastApartWrongFalsely : Prop := leastApartRow.holds Try.pinned (OpenSpec.ofChange leastApartWrong)

/-- 'coppicerkeep.StoreBack': WHATEVER THE INPUT: true; the input reads as it did. -/
def storeBackSpec : ChangeSpec := { name := "storeBack", fn := fun _ => fun
  | [d1, d2] => { results := [.lit (.bool true)], args := [d1, d2] }
  | _ => none }
def storeBackRow : OpenClaim := { program := "ytkjhddjenkocjaa", sum := "48d6d570adfdfb3a747278ec7c49f21d14bec096710a839bf781d239d7ce450e", func := "coppicer/coppicerkeep.StoreBack", spec := "storeBack", unfollowed := true, recurses := true, plainKeys := false, apart := false }
def StoreBackSaid : Prop := storeBackRow.holds Try.pinned (OpenSpec.ofChange storeBackSpec)

/-- ITS FALSE NEIGHBOUR: 'it returns false'. Refute it at one input. -/
def storeBackWrong : ChangeSpec := { name := "storeBack", fn := fun _ => fun
  | [d1, d2] => { results := [.lit (.bool false)], args := [d1, d2] }
  | _ => none }
def StoreBackWrongFalsely : Prop := storeBackRow.holds Try.pinned (OpenSpec.ofChange storeBackWrong)

/-- 'coppicerkeep.StoreTold': WHATEVER THE INPUT: true; the input reads as it did. -/
def storeToldSpec : ChangeSpec := { name := "storeTold", fn := fun _ => fun
  | [d1, d2, d3, d4] => { results := [.lit (.bool true)], args := [d1, d2, d3, d4] }
  | _ => none }
def storeToldRow : OpenClaim := { program := "ytkjhddjenkocjaa", sum := "48d6d570adfdfb3a747278ec7c49f21d14bec096710a839bf781d239d7ce450e", func := "coppicer/coppicerkeep.StoreTold", spec := "storeTold", unfollowed := true, recurses := true, plainKeys := false, apart := false }
def StoreToldSaid : Prop := storeToldRow.holds Try.pinned (OpenSpec.ofChange storeToldSpec)

/-- ITS FALSE NEIGHBOUR: 'it returns false'. Refute it at one input. -/
def storeToldWrong : ChangeSpec := { name := "storeTold", fn := fun _ => fun
  | [d1, d2, d3, d4] => { results := [.lit (.bool false)], args := [d1, d2, d3, d4] }
  | _ => none }
def StoreToldWrongFalsely : Prop := storeToldRow.holds Try.pinned (OpenSpec.ofChange storeToldWrong)

/-- 'coppicerkeep.LyndonOne': WHATEVER THE INPUT: true; the input reads as it did. -/
def lyndonOneSpec : ChangeSpec := { name := "lyndonOne", fn := fun _ => fun
  | [d] => { results := [.lit (.bool true)], args := [d] }
  | _ => none }
def lyndonOneRow : OpenClaim := { program := "ytkjhddjenkocjaa", sum := "48d6d570adfdfb3a747278ec7c49f21d14bec096710a839bf781d239d7ce450e", func := "coppicer/coppicerkeep.LyndonOne", spec := "lyndonOne", inPlace := ["internal/bytealg.Compare"], plainKeys := false, apart := false }
def LyndonOneSaid : Prop := lyndonOneRow.holds Try.pinned (OpenSpec.ofChange lyndonOneSpec)

/-- ITS FALSE NEIGHBOUR: 'it returns false'. Refute it at one input. -/
def lyndonOneWrong : ChangeSpec := { name := "lyndonOne", fn := fun _ => fun
  | [d] => { results := [.lit (.bool false)], args := [d] }
  | _ => none }
def LyndonOneWrongFalsely : Prop := lyndonOneRow.holds Try.pinned (OpenSpec.ofChange lyndonOneWrong)

/-- 'coppicerkeep.EditShared': WHATEVER THE INPUT: true; the input reads as it did. -/
def editSharedSpec : ChangeSpec := { name := "editShared", fn := fun _ => fun
  | [d1, d2, d3] => { results := [.lit (.bool true)], args := [d1, d2, d3] }
  | _ => none }
def editSharedRow : OpenClaim := { program := "ytkjhddjenkocjaa", sum := "48d6d570adfdfb3a747278ec7c49f21d14bec096710a839bf781d239d7ce450e", func := "coppicer/coppicerkeep.EditShared", spec := "editShared", inPlace := ["internal/bytealg.Compare"], unfollowed := true, recurses := true, plainKeys := false, apart := false }
def EditSharedSaid : Prop := editSharedRow.holds Try.pinned (OpenSpec.ofChange editSharedSpec)

/-- ITS FALSE NEIGHBOUR: 'it returns false'. Refute it at one input. -/
def editSharedWrong : ChangeSpec := { name := "editShared", fn := fun _ => fun
  | [d1, d2, d3] => { results := [.lit (.bool false)], args := [d1, d2, d3] }
  | _ => none }
def EditSharedWrongFalsely : Prop := editSharedRow.holds Try.pinned (OpenSpec.ofChange editSharedWrong)

/-- 'coppicerkeep.ClimbMarks': WHATEVER THE INPUT: true; the input reads as it did. -/
def climbMarksSpec : ChangeSpec := { name := "climbMarks", fn := fun _ => fun
  | [d1, d2] => { results := [.lit (.bool true)], args := [d1, d2] }
  | _ => none }
def climbMarksRow : OpenClaim := { program := "ytkjhddjenkocjaa", sum := "48d6d570adfdfb3a747278ec7c49f21d14bec096710a839bf781d239d7ce450e", func := "coppicer/coppicerkeep.ClimbMarks", spec := "climbMarks", unfollowed := true, recurses := true, plainKeys := false, apart := false }
def ClimbMarksSaid : Prop := climbMarksRow.holds Try.pinned (OpenSpec.ofChange climbMarksSpec)

/-- ITS FALSE NEIGHBOUR: 'it returns false'. Refute it at one input. -/
def climbMarksWrong : ChangeSpec := { name := "climbMarks", fn := fun _ => fun
  | [d1, d2] => { results := [.lit (.bool false)], args := [d1, d2] }
  | _ => none }
def ClimbMarksWrongFalsely : Prop := climbMarksRow.holds Try.pinned (OpenSpec.ofChange climbMarksWrong)

/-- 'coppicerkeep.ClimbBack': WHATEVER THE INPUT: true; the input reads as it did. -/
def climbBackSpec : ChangeSpec := { name := "climbBack", fn := fun _ => fun
  | [d1, d2] => { results := [.lit (.bool true)], args := [d1, d2] }
  | _ => none }
def climbBackRow : OpenClaim := { program := "ytkjhddjenkocjaa", sum := "48d6d570adfdfb3a747278ec7c49f21d14bec096710a839bf781d239d7ce450e", func := "coppicer/coppicerkeep.ClimbBack", spec := "climbBack", unfollowed := true, recurses := true, plainKeys := false, apart := false }
def ClimbBackSaid : Prop := climbBackRow.holds Try.pinned (OpenSpec.ofChange climbBackSpec)

/-- ITS FALSE NEIGHBOUR: 'it returns false'. Refute it at one input. -/
def climbBackWrong : ChangeSpec := { name := "climbBack", fn := fun _ => fun
  | [d1, d2] => { results := [.lit (.bool false)], args := [d1, d2] }
  | _ => none }
def ClimbBackWrongFalsely : Prop := climbBackRow.holds Try.pinned (OpenSpec.ofChange climbBackWrong)

/-- 'coppicerkeep.ClimbShort': WHATEVER THE INPUT: true; the input reads as it did. -/
def climbShortSpec : ChangeSpec := { name := "climbShort", fn := fun _ => fun
  | [d1, d2] => { results := [.lit (.bool true)], args := [d1, d2] }
  | _ => none }
def climbShortRow : OpenClaim := { program := "ytkjhddjenkocjaa", sum := "48d6d570adfdfb3a747278ec7c49f21d14bec096710a839bf781d239d7ce450e", func := "coppicer/coppicerkeep.ClimbShort", spec := "climbShort", unfollowed := true, recurses := true, plainKeys := false, apart := false }
def ClimbShortSaid : Prop := climbShortRow.holds Try.pinned (OpenSpec.ofChange climbShortSpec)

/-- ITS FALSE NEIGHBOUR: 'it returns false'. Refute it at one input. -/
def climbShortWrong : ChangeSpec := { name := "climbShort", fn := fun _ => fun
  | [d1, d2] => { results := [.lit (.bool false)], args := [d1, d2] }
  | _ => none }
def ClimbShortWrongFalsely : Prop := climbShortRow.holds Try.pinned (OpenSpec.ofChange climbShortWrong)

/- THE SECOND FORM. 'bulk': how many values and letters a reading holds, each counted each time it is reached (what is shared counts as often as it is met; a slice's spare places count too). A statement '..UptoSaid' is the law's where the arguments, and the package variables that the reading takes, are together of bulk at most 1048576: NARROWER than '..Said'. Prove '..Said' where nothing that the law and all that it calls make is longer than what came in: it says more and counts as full. Else prove '..UptoSaid'. A law counts once. -/
mutual
def uptoBulk {H : Type} : DataW H → Nat
  | .lit (.string bytes) => bytes.length + 1
  | .lit _ => 1
  | .nil => 1
  | .ptr d => uptoBulk d + 1
  | .slice elems spare => uptoBulkAll elems + uptoBulkAll spare + 1
  | .agg parts => uptoBulkAll parts + 1
  | .iface _ d => uptoBulk d + 1
  | .map entries => uptoBulkEntries entries + 1
  | .held _ => 1
def uptoBulkAll {H : Type} : List (DataW H) → Nat
  | [] => 0
  | d :: r => uptoBulk d + uptoBulkAll r
def uptoBulkEntries {H : Type} : List (Lit × DataW H) → Nat
  | [] => 0
  | x :: r => uptoBulkEntry x + uptoBulkEntries r
def uptoBulkEntry {H : Type} : Lit × DataW H → Nat
  | (.string bytes, d) => bytes.length + uptoBulk d + 1
  | (_, d) => uptoBulk d + 1
 end
def uptoSmall : (H : Type) → List (DataW H) → Bool := fun _ ds => decide (uptoBulkAll ds ≤ 1048576)
def OpenSpec.upto (s : _root_.Go.ChangeSpec) : _root_.Go.OpenSpec := { _root_.Go.OpenSpec.ofChange s with cond := some uptoSmall }

/-- 'coppicerkeep.SentenceStar', WHERE WHAT IT READS IS OF BULK AT MOST 1048576: true; the input reads as it did. -/
def sentenceStarUptoRow : OpenClaim := { program := "ytkjhddjenkocjaa", sum := "48d6d570adfdfb3a747278ec7c49f21d14bec096710a839bf781d239d7ce450e", func := "coppicer/coppicerkeep.SentenceStar", spec := "sentenceStar", unfollowed := true, recurses := true, plainKeys := false, apart := false, narrowed := true }
def SentenceStarUptoSaid : Prop := sentenceStarUptoRow.holds Try.pinned (OpenSpec.upto sentenceStarSpec)

/-- 'coppicerkeep.SentenceBack', WHERE WHAT IT READS IS OF BULK AT MOST 1048576: true; the input reads as it did. -/
def sentenceBackUptoRow : OpenClaim := { program := "ytkjhddjenkocjaa", sum := "48d6d570adfdfb3a747278ec7c49f21d14bec096710a839bf781d239d7ce450e", func := "coppicer/coppicerkeep.SentenceBack", spec := "sentenceBack", unfollowed := true, recurses := true, plainKeys := false, apart := false, narrowed := true }
def SentenceBackUptoSaid : Prop := sentenceBackUptoRow.holds Try.pinned (OpenSpec.upto sentenceBackSpec)

/-- 'coppicerkeep.KindsSame', WHERE WHAT IT READS IS OF BULK AT MOST 1048576: true; the input reads as it did. -/
def kindsSameUptoRow : OpenClaim := { program := "ytkjhddjenkocjaa", sum := "48d6d570adfdfb3a747278ec7c49f21d14bec096710a839bf781d239d7ce450e", func := "coppicer/coppicerkeep.KindsSame", spec := "kindsSame", unfollowed := true, recurses := true, plainKeys := false, apart := false, narrowed := true }
def KindsSameUptoSaid : Prop := kindsSameUptoRow.holds Try.pinned (OpenSpec.upto kindsSameSpec)

/-- 'coppicerkeep.KindsStill', WHERE WHAT IT READS IS OF BULK AT MOST 1048576: true; the input reads as it did. -/
def kindsStillUptoRow : OpenClaim := { program := "ytkjhddjenkocjaa", sum := "48d6d570adfdfb3a747278ec7c49f21d14bec096710a839bf781d239d7ce450e", func := "coppicer/coppicerkeep.KindsStill", spec := "kindsStill", unfollowed := true, recurses := true, plainKeys := false, apart := false, narrowed := true }
def KindsStillUptoSaid : Prop := kindsStillUptoRow.holds Try.pinned (OpenSpec.upto kindsStillSpec)

/-- 'coppicerkeep.LeastApart', WHERE WHAT IT READS IS OF BULK AT MOST 1048576: true; the input reads as it did. -/
def leastApartUptoRow : OpenClaim := { program := "ytkjhddjenkocjaa", sum := "48d6d570adfdfb3a747278ec7c49f21d14bec096710a839bf781d239d7ce450e", func := "coppicer/coppicerkeep.LeastApart", spec := "leastApart", unfollowed := true, recurses := true, plainKeys := false, apart := false, narrowed := true }
def LeastApartUptoSaid : Prop := leastApartUptoRow.holds Try.pinned (OpenSpec.upto leastApartSpec)

/-- 'coppicerkeep.StoreBack', WHERE WHAT IT READS IS OF BULK AT MOST 1048576: true; the input reads as it did. -/
def storeBackUptoRow : OpenClaim := { program := "ytkjhddjenkocjaa", sum := "48d6d570adfdfb3a747278ec7c49f21d14bec096710a839bf781d239d7ce450e", func := "coppicer/coppicerkeep.StoreBack", spec := "storeBack", unfollowed := true, recurses := true, plainKeys := false, apart := false, narrowed := true }
def StoreBackUptoSaid : Prop := storeBackUptoRow.holds Try.pinned (OpenSpec.upto storeBackSpec)

/-- 'coppicerkeep.StoreTold', WHERE WHAT IT READS IS OF BULK AT MOST 1048576: true; the input reads as it did. -/
def storeToldUptoRow : OpenClaim := { program := "ytkjhddjenkocjaa", sum := "48d6d570adfdfb3a747278ec7c49f21d14bec096710a839bf781d239d7ce450e", func := "coppicer/coppicerkeep.StoreTold", spec := "storeTold", unfollowed := true, recurses := true, plainKeys := false, apart := false, narrowed := true }
def StoreToldUptoSaid : Prop := storeToldUptoRow.holds Try.pinned (OpenSpec.upto storeToldSpec)

/-- 'coppicerkeep.LyndonOne', WHERE WHAT IT READS IS OF BULK AT MOST 1048576: true; the input reads as it did. -/
def lyndonOneUptoRow : OpenClaim := { program := "ytkjhddjenkocjaa", sum := "48d6d570adfdfb3a747278ec7c49f21d14bec096710a839bf781d239d7ce450e", func := "coppicer/coppicerkeep.LyndonOne", spec := "lyndonOne", inPlace := ["internal/bytealg.Compare"], plainKeys := false, apart := false, narrowed := true }
def LyndonOneUptoSaid : Prop := lyndonOneUptoRow.holds Try.pinned (OpenSpec.upto lyndonOneSpec)

/-- 'coppicerkeep.EditShared', WHERE WHAT IT READS IS OF BULK AT MOST 1048576: true; the input reads as it did. -/
def editSharedUptoRow : OpenClaim := { program := "ytkjhddjenkocjaa", sum := "48d6d570adfdfb3a747278ec7c49f21d14bec096710a839bf781d239d7ce450e", func := "coppicer/coppicerkeep.EditShared", spec := "editShared", inPlace := ["internal/bytealg.Compare"], unfollowed := true, recurses := true, plainKeys := false, apart := false, narrowed := true }
def EditSharedUptoSaid : Prop := editSharedUptoRow.holds Try.pinned (OpenSpec.upto editSharedSpec)

/-- 'coppicerkeep.ClimbMarks', WHERE WHAT IT READS IS OF BULK AT MOST 1048576: true; the input reads as it did. -/
def climbMarksUptoRow : OpenClaim := { program := "ytkjhddjenkocjaa", sum := "48d6d570adfdfb3a747278ec7c49f21d14bec096710a839bf781d239d7ce450e", func := "coppicer/coppicerkeep.ClimbMarks", spec := "climbMarks", unfollowed := true, recurses := true, plainKeys := false, apart := false, narrowed := true }
def ClimbMarksUptoSaid : Prop := climbMarksUptoRow.holds Try.pinned (OpenSpec.upto climbMarksSpec)

/-- 'coppicerkeep.ClimbBack', WHERE WHAT IT READS IS OF BULK AT MOST 1048576: true; the input reads as it did. -/
def climbBackUptoRow : OpenClaim := { program := "ytkjhddjenkocjaa", sum := "48d6d570adfdfb3a747278ec7c49f21d14bec096710a839bf781d239d7ce450e", func := "coppicer/coppicerkeep.ClimbBack", spec := "climbBack", unfollowed := true, recurses := true, plainKeys := false, apart := false, narrowed := true }
def ClimbBackUptoSaid : Prop := climbBackUptoRow.holds Try.pinned (OpenSpec.upto climbBackSpec)

/-- 'coppicerkeep.ClimbShort', WHERE WHAT IT READS IS OF BULK AT MOST 1048576: true; the input reads as it did. -/
def climbShortUptoRow : OpenClaim := { program := "ytkjhddjenkocjaa", sum := "48d6d570adfdfb3a747278ec7c49f21d14bec096710a839bf781d239d7ce450e", func := "coppicer/coppicerkeep.ClimbShort", spec := "climbShort", unfollowed := true, recurses := true, plainKeys := false, apart := false, narrowed := true }
def ClimbShortUptoSaid : Prop := climbShortUptoRow.holds Try.pinned (OpenSpec.upto climbShortSpec)

end Rows
end Go.Proofs.Ytkjhddjenkocjaa
