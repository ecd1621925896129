/-
  No cell of these rows narrows 'for every input' (looked for: loops, veiled, ifaces, maps, wideKeys, modest, calm, conditions, laid).
  DERIVED. THE GIVEN ROWS OF THIS SEAT. 12 by the template 'for every input the law returns true; each argument reads behind the call as it read before'; 0 by the template 'total and deterministic' (their statements: YtancbigkdjbhnaaTotals.lean).
  GIVEN WITH THE SEED: the statements are not yours to turn. If you find one false, say at which input.
  Laid BY PROGRAM, IN A SANDBOX (cutbox-rows.mjs): the forced cells as the released guide's own fill.sh prints them over the translation f9c516f9c26e427b… (all of the seat's roots in one cut). By AI agents, Wed Nov 11 2026. No macro, syntax, notation, axiom, sorry.
-/
import Derived.Test.YtancbigkdjbhnaaChecked
import GoSem.Claim
import GoSem.ClaimJoined
import GoSem.ClaimMapViews
import Derived.JoinedTies
import Derived.KernelRfl
namespace Go.Proofs.Ytancbigkdjbhnaa
/- THE CELL 'sum', in the pinned program and in every row, IS THE sha256 OF THE DUMP (.gsa) THAT YtancbigkdjbhnaaProg.lean LOADS. Nothing in Lean hashes anything: it is a label: what it is worth is what the hold of that sum in a sandbox is worth. -/
noncomputable def Try.pinned : Pinned := { name := "ytancbigkdjbhnaa", sum := "f9c516f9c26e427b375b2a1b4a37232fb23e26e9d8bbb5c1198cbf8b831ca519", checked := Try.checked }
namespace Rows
def none {H : Type} : Left H := { results := [], args := [] }

/-- 'coppicerkeep.StoreSum': WHATEVER THE INPUT: true; the input reads as it did. -/
def storeSumSpec : ChangeSpec := { name := "storeSum", fn := fun _ => fun
  | [d1, d2] => { results := [.lit (.bool true)], args := [d1, d2] }
  | _ => none }
def storeSumRow : OpenClaim := { program := "ytancbigkdjbhnaa", sum := "f9c516f9c26e427b375b2a1b4a37232fb23e26e9d8bbb5c1198cbf8b831ca519", func := "coppicer/coppicerkeep.StoreSum", spec := "storeSum", apart := false }
def StoreSumSaid : Prop := storeSumRow.holds Try.pinned (OpenSpec.ofChange storeSumSpec)

/-- ITS FALSE NEIGHBOUR: 'it returns false'. Refute it at one input. -/
def storeSumWrong : ChangeSpec := { name := "storeSum", fn := fun _ => fun
  | [d1, d2] => { results := [.lit (.bool false)], args := [d1, d2] }
  | _ => none }
def StoreSumWrongFalsely : Prop := storeSumRow.holds Try.pinned (OpenSpec.ofChange storeSumWrong)

/-- 'coppicerkeep.BracketCycle': WHATEVER THE INPUT: true; the input reads as it did. -/
def bracketCycleSpec : ChangeSpec := { name := "bracketCycle", fn := fun _ => fun
  | [d1, d2] => { results := [.lit (.bool true)], args := [d1, d2] }
  | _ => none }
def bracketCycleRow : OpenClaim := { program := "ytancbigkdjbhnaa", sum := "f9c516f9c26e427b375b2a1b4a37232fb23e26e9d8bbb5c1198cbf8b831ca519", func := "coppicer/coppicerkeep.BracketCycle", spec := "bracketCycle", apart := false }
def BracketCycleSaid : Prop := bracketCycleRow.holds Try.pinned (OpenSpec.ofChange bracketCycleSpec)

/-- ITS FALSE NEIGHBOUR: 'it returns false'. Refute it at one input. -/
def bracketCycleWrong : ChangeSpec := { name := "bracketCycle", fn := fun _ => fun
  | [d1, d2] => { results := [.lit (.bool false)], args := [d1, d2] }
  | _ => none }
def BracketCycleWrongFalsely : Prop := bracketCycleRow.holds Try.pinned (OpenSpec.ofChange bracketCycleWrong)

/-- 'coppicerkeep.PowerFine': WHATEVER THE INPUT: true; the input reads as it did. -/
def powerFineSpec : ChangeSpec := { name := "powerFine", fn := fun _ => fun
  | [d1, d2, d3] => { results := [.lit (.bool true)], args := [d1, d2, d3] }
  | _ => none }
def powerFineRow : OpenClaim := { program := "ytancbigkdjbhnaa", sum := "f9c516f9c26e427b375b2a1b4a37232fb23e26e9d8bbb5c1198cbf8b831ca519", func := "coppicer/coppicerkeep.PowerFine", spec := "powerFine", apart := false }
def PowerFineSaid : Prop := powerFineRow.holds Try.pinned (OpenSpec.ofChange powerFineSpec)

/-- ITS FALSE NEIGHBOUR: 'it returns false'. Refute it at one input. -/
def powerFineWrong : ChangeSpec := { name := "powerFine", fn := fun _ => fun
  | [d1, d2, d3] => { results := [.lit (.bool false)], args := [d1, d2, d3] }
  | _ => none }
def PowerFineWrongFalsely : Prop := powerFineRow.holds Try.pinned (OpenSpec.ofChange powerFineWrong)

/-- 'coppicerkeep.BeginCover': WHATEVER THE INPUT: true; the input reads as it did. -/
def beginCoverSpec : ChangeSpec := { name := "beginCover", fn := fun _ => fun
  | [d1, d2, d3] => { results := [.lit (.bool true)], args := [d1, d2, d3] }
  | _ => none }
def beginCoverRow : OpenClaim := { program := "ytancbigkdjbhnaa", sum := "f9c516f9c26e427b375b2a1b4a37232fb23e26e9d8bbb5c1198cbf8b831ca519", func := "coppicer/coppicerkeep.BeginCover", spec := "beginCover", apart := false }
def BeginCoverSaid : Prop := beginCoverRow.holds Try.pinned (OpenSpec.ofChange beginCoverSpec)

/-- ITS FALSE NEIGHBOUR: 'it returns false'. Refute it at one input. -/
def beginCoverWrong : ChangeSpec := { name := "beginCover", fn := fun _ => fun
  | [d1, d2, d3] => { results := [.lit (.bool false)], args := [d1, d2, d3] }
  | _ => none }
def BeginCoverWrongFalsely : Prop := beginCoverRow.holds Try.pinned (OpenSpec.ofChange beginCoverWrong)

/-- 'coppicerkeep.EditMetric': WHATEVER THE INPUT: true; the input reads as it did. -/
def editMetricSpec : ChangeSpec := { name := "editMetric", fn := fun _ => fun
  | [d1, d2, d3] => { results := [.lit (.bool true)], args := [d1, d2, d3] }
  | _ => none }
def editMetricRow : OpenClaim := { program := "ytancbigkdjbhnaa", sum := "f9c516f9c26e427b375b2a1b4a37232fb23e26e9d8bbb5c1198cbf8b831ca519", func := "coppicer/coppicerkeep.EditMetric", spec := "editMetric", apart := false }
def EditMetricSaid : Prop := editMetricRow.holds Try.pinned (OpenSpec.ofChange editMetricSpec)

/-- ITS FALSE NEIGHBOUR: 'it returns false'. Refute it at one input. -/
def editMetricWrong : ChangeSpec := { name := "editMetric", fn := fun _ => fun
  | [d1, d2, d3] => { results := [.lit (.bool false)], args := [d1, d2, d3] }
  | _ => none }
def EditMetricWrongFalsely : Prop := editMetricRow.holds Try.pinned (OpenSpec.ofChange editMetricWrong)

/-- 'coppicerkeep.BracketMany': WHATEVER THE INPUT: true; the input reads as it did. -/
def bracketManySpec : ChangeSpec := { name := "bracketMany", fn := fun _ => fun
  | [d] => { results := [.lit (.bool true)], args := [d] }
  | _ => none }
def bracketManyRow : OpenClaim := { program := "ytancbigkdjbhnaa", sum := "f9c516f9c26e427b375b2a1b4a37232fb23e26e9d8bbb5c1198cbf8b831ca519", func := "coppicer/coppicerkeep.BracketMany", spec := "bracketMany", apart := false }
def BracketManySaid : Prop := bracketManyRow.holds Try.pinned (OpenSpec.ofChange bracketManySpec)

/-- ITS FALSE NEIGHBOUR: 'it returns false'. Refute it at one input. -/
def bracketManyWrong : ChangeSpec := { name := "bracketMany", fn := fun _ => fun
  | [d] => { results := [.lit (.bool false)], args := [d] }
  | _ => none }
def BracketManyWrongFalsely : Prop := bracketManyRow.holds Try.pinned (OpenSpec.ofChange bracketManyWrong)

/-- 'coppicerkeep.PowerRoot': WHATEVER THE INPUT: true; the input reads as it did. -/
def powerRootSpec : ChangeSpec := { name := "powerRoot", fn := fun _ => fun
  | [d] => { results := [.lit (.bool true)], args := [d] }
  | _ => none }
def powerRootRow : OpenClaim := { program := "ytancbigkdjbhnaa", sum := "f9c516f9c26e427b375b2a1b4a37232fb23e26e9d8bbb5c1198cbf8b831ca519", func := "coppicer/coppicerkeep.PowerRoot", spec := "powerRoot", apart := false }
def PowerRootSaid : Prop := powerRootRow.holds Try.pinned (OpenSpec.ofChange powerRootSpec)

/-- ITS FALSE NEIGHBOUR: 'it returns false'. Refute it at one input. -/
def powerRootWrong : ChangeSpec := { name := "powerRoot", fn := fun _ => fun
  | [d] => { results := [.lit (.bool false)], args := [d] }
  | _ => none }
def PowerRootWrongFalsely : Prop := powerRootRow.holds Try.pinned (OpenSpec.ofChange powerRootWrong)

/-- 'coppicerkeep.BracketNest': WHATEVER THE INPUT: true; the input reads as it did. -/
def bracketNestSpec : ChangeSpec := { name := "bracketNest", fn := fun _ => fun
  | [d1, d2, d3] => { results := [.lit (.bool true)], args := [d1, d2, d3] }
  | _ => none }
def bracketNestRow : OpenClaim := { program := "ytancbigkdjbhnaa", sum := "f9c516f9c26e427b375b2a1b4a37232fb23e26e9d8bbb5c1198cbf8b831ca519", func := "coppicer/coppicerkeep.BracketNest", spec := "bracketNest", apart := false }
def BracketNestSaid : Prop := bracketNestRow.holds Try.pinned (OpenSpec.ofChange bracketNestSpec)

/-- ITS FALSE NEIGHBOUR: 'it returns false'. Refute it at one input. -/
def bracketNestWrong : ChangeSpec := { name := "bracketNest", fn := fun _ => fun
  | [d1, d2, d3] => { results := [.lit (.bool false)], args := [d1, d2, d3] }
  | _ => none }
def BracketNestWrongFalsely : Prop := bracketNestRow.holds Try.pinned (OpenSpec.ofChange bracketNestWrong)

/-- 'coppicerkeep.PowerCommutes': WHATEVER THE INPUT: true; the input reads as it did. -/
def powerCommutesSpec : ChangeSpec := { name := "powerCommutes", fn := fun _ => fun
  | [d1, d2] => { results := [.lit (.bool true)], args := [d1, d2] }
  | _ => none }
def powerCommutesRow : OpenClaim := { program := "ytancbigkdjbhnaa", sum := "f9c516f9c26e427b375b2a1b4a37232fb23e26e9d8bbb5c1198cbf8b831ca519", func := "coppicer/coppicerkeep.PowerCommutes", spec := "powerCommutes", apart := false }
def PowerCommutesSaid : Prop := powerCommutesRow.holds Try.pinned (OpenSpec.ofChange powerCommutesSpec)

/-- ITS FALSE NEIGHBOUR: 'it returns false'. Refute it at one input. -/
def powerCommutesWrong : ChangeSpec := { name := "powerCommutes", fn := fun _ => fun
  | [d1, d2] => { results := [.lit (.bool false)], args := [d1, d2] }
  | _ => none }
def PowerCommutesWrongFalsely : Prop := powerCommutesRow.holds Try.pinned (OpenSpec.ofChange powerCommutesWrong)

/-- 'coppicerkeep.LyndonOne': WHATEVER THE INPUT: true; the input reads as it did. -/
def lyndonOneSpec : ChangeSpec := { name := "lyndonOne", fn := fun _ => fun
  | [d] => { results := [.lit (.bool true)], args := [d] }
  | _ => none }
def lyndonOneRow : OpenClaim := { program := "ytancbigkdjbhnaa", sum := "f9c516f9c26e427b375b2a1b4a37232fb23e26e9d8bbb5c1198cbf8b831ca519", func := "coppicer/coppicerkeep.LyndonOne", spec := "lyndonOne", inPlace := ["internal/bytealg.Compare"], apart := false }
def LyndonOneSaid : Prop := lyndonOneRow.holds Try.pinned (OpenSpec.ofChange lyndonOneSpec)

/-- ITS FALSE NEIGHBOUR: 'it returns false'. Refute it at one input. -/
def lyndonOneWrong : ChangeSpec := { name := "lyndonOne", fn := fun _ => fun
  | [d] => { results := [.lit (.bool false)], args := [d] }
  | _ => none }
def LyndonOneWrongFalsely : Prop := lyndonOneRow.holds Try.pinned (OpenSpec.ofChange lyndonOneWrong)

/-- 'coppicerkeep.BeginPeriods': WHATEVER THE INPUT: true; the input reads as it did. -/
def beginPeriodsSpec : ChangeSpec := { name := "beginPeriods", fn := fun _ => fun
  | [d1, d2] => { results := [.lit (.bool true)], args := [d1, d2] }
  | _ => none }
def beginPeriodsRow : OpenClaim := { program := "ytancbigkdjbhnaa", sum := "f9c516f9c26e427b375b2a1b4a37232fb23e26e9d8bbb5c1198cbf8b831ca519", func := "coppicer/coppicerkeep.BeginPeriods", spec := "beginPeriods", apart := false }
def BeginPeriodsSaid : Prop := beginPeriodsRow.holds Try.pinned (OpenSpec.ofChange beginPeriodsSpec)

/-- ITS FALSE NEIGHBOUR: 'it returns false'. Refute it at one input. -/
def beginPeriodsWrong : ChangeSpec := { name := "beginPeriods", fn := fun _ => fun
  | [d1, d2] => { results := [.lit (.bool false)], args := [d1, d2] }
  | _ => none }
def BeginPeriodsWrongFalsely : Prop := beginPeriodsRow.holds Try.pinned (OpenSpec.ofChange beginPeriodsWrong)

/-- 'coppicerkeep.BorderPeriods': WHATEVER THE INPUT: true; the input reads as it did. -/
def borderPeriodsSpec : ChangeSpec := { name := "borderPeriods", fn := fun _ => fun
  | [d] => { results := [.lit (.bool true)], args := [d] }
  | _ => none }
def borderPeriodsRow : OpenClaim := { program := "ytancbigkdjbhnaa", sum := "f9c516f9c26e427b375b2a1b4a37232fb23e26e9d8bbb5c1198cbf8b831ca519", func := "coppicer/coppicerkeep.BorderPeriods", spec := "borderPeriods", apart := false }
def BorderPeriodsSaid : Prop := borderPeriodsRow.holds Try.pinned (OpenSpec.ofChange borderPeriodsSpec)

/-- ITS FALSE NEIGHBOUR: 'it returns false'. Refute it at one input. -/
def borderPeriodsWrong : ChangeSpec := { name := "borderPeriods", fn := fun _ => fun
  | [d] => { results := [.lit (.bool false)], args := [d] }
  | _ => none }
def BorderPeriodsWrongFalsely : Prop := borderPeriodsRow.holds Try.pinned (OpenSpec.ofChange borderPeriodsWrong)

/- THE SECOND FORM. 'bulk': how many values and letters a reading holds, each counted each time it is reached (what is shared counts as often as it is met; a slice's spare places count too). A statement '..UptoSaid' is the law's where the arguments, and the package variables that the reading takes, are together of bulk at most 1048576: NARROWER than '..Said'. Prove '..Said' where nothing that the law and all that it calls make is longer than what came in: it says more and counts as full. Else prove '..UptoSaid'. A law counts once. -/
mutual
def uptoBulk {H : Type} : DataW H → Nat
  | .lit (.string bytes) => bytes.length + 1
  | .lit _ => 1
  | .nil => 1
  | .ptr d => uptoBulk d + 1
  | .slice elems spare => uptoBulkAll elems + uptoBulkAll spare + 1
  | .agg parts => uptoBulkAll parts + 1
  | .iface _ d => uptoBulk d + 1
  | .map entries => uptoBulkEntries entries + 1
  | .held _ => 1
def uptoBulkAll {H : Type} : List (DataW H) → Nat
  | [] => 0
  | d :: r => uptoBulk d + uptoBulkAll r
def uptoBulkEntries {H : Type} : List (Lit × DataW H) → Nat
  | [] => 0
  | x :: r => uptoBulkEntry x + uptoBulkEntries r
def uptoBulkEntry {H : Type} : Lit × DataW H → Nat
  | (.string bytes, d) => bytes.length + uptoBulk d + 1
  | (_, d) => uptoBulk d + 1
 end
def uptoSmall : (H : Type) → List (DataW H) → Bool := fun _ ds => decide (uptoBulkAll ds ≤ 1048576)
def OpenSpec.upto (s : _root_.Go.ChangeSpec) : _root_.Go.OpenSpec := { _root_.Go.OpenSpec.ofChange s with cond := some uptoSmall }

/-- 'coppicerkeep.StoreSum', WHERE WHAT IT READS IS OF BULK AT MOST 1048576: true; the input reads as it did. -/
def storeSumUptoRow : OpenClaim := { program := "ytancbigkdjbhnaa", sum := "f9c516f9c26e427b375b2a1b4a37232fb23e26e9d8bbb5c1198cbf8b831ca519", func := "coppicer/coppicerkeep.StoreSum", spec := "storeSum", apart := false, narrowed := true }
def StoreSumUptoSaid : Prop := storeSumUptoRow.holds Try.pinned (OpenSpec.upto storeSumSpec)

/-- 'coppicerkeep.BracketCycle', WHERE WHAT IT READS IS OF BULK AT MOST 1048576: true; the input reads as it did. -/
def bracketCycleUptoRow : OpenClaim := { program := "ytancbigkdjbhnaa", sum := "f9c516f9c26e427b375b2a1b4a37232fb23e26e9d8bbb5c1198cbf8b831ca519", func := "coppicer/coppicerkeep.BracketCycle", spec := "bracketCycle", apart := false, narrowed := true }
def BracketCycleUptoSaid : Prop := bracketCycleUptoRow.holds Try.pinned (OpenSpec.upto bracketCycleSpec)

/-- 'coppicerkeep.PowerFine', WHERE WHAT IT READS IS OF BULK AT MOST 1048576: true; the input reads as it did. -/
def powerFineUptoRow : OpenClaim := { program := "ytancbigkdjbhnaa", sum := "f9c516f9c26e427b375b2a1b4a37232fb23e26e9d8bbb5c1198cbf8b831ca519", func := "coppicer/coppicerkeep.PowerFine", spec := "powerFine", apart := false, narrowed := true }
def PowerFineUptoSaid : Prop := powerFineUptoRow.holds Try.pinned (OpenSpec.upto powerFineSpec)

/-- 'coppicerkeep.BeginCover', WHERE WHAT IT READS IS OF BULK AT MOST 1048576: true; the input reads as it did. -/
def beginCoverUptoRow : OpenClaim := { program := "ytancbigkdjbhnaa", sum := "f9c516f9c26e427b375b2a1b4a37232fb23e26e9d8bbb5c1198cbf8b831ca519", func := "coppicer/coppicerkeep.BeginCover", spec := "beginCover", apart := false, narrowed := true }
def BeginCoverUptoSaid : Prop := beginCoverUptoRow.holds Try.pinned (OpenSpec.upto beginCoverSpec)

/-- 'coppicerkeep.EditMetric', WHERE WHAT IT READS IS OF BULK AT MOST 1048576: true; the input reads as it did. -/
def editMetricUptoRow : OpenClaim := { program := "ytancbigkdjbhnaa", sum := "f9c516f9c26e427b375b2a1b4a37232fb23e26e9d8bbb5c1198cbf8b831ca519", func := "coppicer/coppicerkeep.EditMetric", spec := "editMetric", apart := false, narrowed := true }
def EditMetricUptoSaid : Prop := editMetricUptoRow.holds Try.pinned (OpenSpec.upto editMetricSpec)

/-- 'coppicerkeep.BracketMany', WHERE WHAT IT READS IS OF BULK AT MOST 1048576: true; the input reads as it did. -/
def bracketManyUptoRow : OpenClaim := { program := "ytancbigkdjbhnaa", sum := "f9c516f9c26e427b375b2a1b4a37232fb23e26e9d8bbb5c1198cbf8b831ca519", func := "coppicer/coppicerkeep.BracketMany", spec := "bracketMany", apart := false, narrowed := true }
def BracketManyUptoSaid : Prop := bracketManyUptoRow.holds Try.pinned (OpenSpec.upto bracketManySpec)

/-- 'coppicerkeep.PowerRoot', WHERE WHAT IT READS IS OF BULK AT MOST 1048576: true; the input reads as it did. -/
def powerRootUptoRow : OpenClaim := { program := "ytancbigkdjbhnaa", sum := "f9c516f9c26e427b375b2a1b4a37232fb23e26e9d8bbb5c1198cbf8b831ca519", func := "coppicer/coppicerkeep.PowerRoot", spec := "powerRoot", apart := false, narrowed := true }
def PowerRootUptoSaid : Prop := powerRootUptoRow.holds Try.pinned (OpenSpec.upto powerRootSpec)

/-- 'coppicerkeep.BracketNest', WHERE WHAT IT READS IS OF BULK AT MOST 1048576: true; the input reads as it did. -/
def bracketNestUptoRow : OpenClaim := { program := "ytancbigkdjbhnaa", sum := "f9c516f9c26e427b375b2a1b4a37232fb23e26e9d8bbb5c1198cbf8b831ca519", func := "coppicer/coppicerkeep.BracketNest", spec := "bracketNest", apart := false, narrowed := true }
def BracketNestUptoSaid : Prop := bracketNestUptoRow.holds Try.pinned (OpenSpec.upto bracketNestSpec)

/-- 'coppicerkeep.PowerCommutes', WHERE WHAT IT READS IS OF BULK AT MOST 1048576: true; the input reads as it did. -/
def powerCommutesUptoRow : OpenClaim := { program := "ytancbigkdjbhnaa", sum := "f9c516f9c26e427b375b2a1b4a37232fb23e26e9d8bbb5c1198cbf8b831ca519", func := "coppicer/coppicerkeep.PowerCommutes", spec := "powerCommutes", apart := false, narrowed := true }
def PowerCommutesUptoSaid : Prop := powerCommutesUptoRow.holds Try.pinned (OpenSpec.upto powerCommutesSpec)

/-- 'coppicerkeep.LyndonOne', WHERE WHAT IT READS IS OF BULK AT MOST 1048576: true; the input reads as it did. -/
def lyndonOneUptoRow : OpenClaim := { program := "ytancbigkdjbhnaa", sum := "f9c516f9c26e427b375b2a1b4a37232fb23e26e9d8bbb5c1198cbf8b831ca519", func := "coppicer/coppicerkeep.LyndonOne", spec := "lyndonOne", inPlace := ["internal/bytealg.Compare"], apart := false, narrowed := true }
def LyndonOneUptoSaid : Prop := lyndonOneUptoRow.holds Try.pinned (OpenSpec.upto lyndonOneSpec)

/-- 'coppicerkeep.BeginPeriods', WHERE WHAT IT READS IS OF BULK AT MOST 1048576: true; the input reads as it did. -/
def beginPeriodsUptoRow : OpenClaim := { program := "ytancbigkdjbhnaa", sum := "f9c516f9c26e427b375b2a1b4a37232fb23e26e9d8bbb5c1198cbf8b831ca519", func := "coppicer/coppicerkeep.BeginPeriods", spec := "beginPeriods", apart := false, narrowed := true }
def BeginPeriodsUptoSaid : Prop := beginPeriodsUptoRow.holds Try.pinned (OpenSpec.upto beginPeriodsSpec)

/-- 'coppicerkeep.BorderPeriods', WHERE WHAT IT READS IS OF BULK AT MOST 1048576: true; the input reads as it did. -/
def borderPeriodsUptoRow : OpenClaim := { program := "ytancbigkdjbhnaa", sum := "f9c516f9c26e427b375b2a1b4a37232fb23e26e9d8bbb5c1198cbf8b831ca519", func := "coppicer/coppicerkeep.BorderPeriods", spec := "borderPeriods", apart := false, narrowed := true }
def BorderPeriodsUptoSaid : Prop := borderPeriodsUptoRow.holds Try.pinned (OpenSpec.upto borderPeriodsSpec)

end Rows
end Go.Proofs.Ytancbigkdjbhnaa
