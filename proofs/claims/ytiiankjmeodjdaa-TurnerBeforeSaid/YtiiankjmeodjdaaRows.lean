/-
  No cell of these rows narrows 'for every input' (looked for: loops, veiled, ifaces, maps, wideKeys, modest, calm, conditions, laid).
  DERIVED. THE GIVEN ROWS OF THIS SEAT. 12 by the template 'for every input the law returns true; each argument reads behind the call as it read before'; 0 by the template 'total and deterministic' (their statements: YtiiankjmeodjdaaTotals.lean).
  GIVEN WITH THE SEED: the statements are not yours to turn. If you find one false, say at which input.
  Laid BY PROGRAM, IN A SANDBOX (cutbox-rows.mjs): the forced cells as the released guide's own fill.sh prints them over the translation a112feba836b7496… (all of the seat's roots in one cut). By AI agents, Wed Nov 11 2026. No macro, syntax, notation, axiom, sorry.
-/
import Derived.Test.YtiiankjmeodjdaaChecked
import GoSem.Claim
import GoSem.ClaimJoined
import GoSem.ClaimMapViews
import Derived.JoinedTies
import Derived.KernelRfl
namespace Go.Proofs.Ytiiankjmeodjdaa
/- THE CELL 'sum', in the pinned program and in every row, IS THE sha256 OF THE DUMP (.gsa) THAT YtiiankjmeodjdaaProg.lean LOADS. Nothing in Lean hashes anything: it is a label: what it is worth is what the hold of that sum in a sandbox is worth. -/
noncomputable def Try.pinned : Pinned := { name := "ytiiankjmeodjdaa", sum := "a112feba836b74962e2c7e5b52b3f9857093837db633b307d4b381c5c1d02602", checked := Try.checked }
namespace Rows
def none {H : Type} : Left H := { results := [], args := [] }

/-- 'coppicerkeep.NetMore': WHATEVER THE INPUT: true; the input reads as it did. -/
def netMoreSpec : ChangeSpec := { name := "netMore", fn := fun _ => fun
  | [d1, d2, d3] => { results := [.lit (.bool true)], args := [d1, d2, d3] }
  | _ => none }
def netMoreRow : OpenClaim := { program := "ytiiankjmeodjdaa", sum := "a112feba836b74962e2c7e5b52b3f9857093837db633b307d4b381c5c1d02602", func := "coppicer/coppicerkeep.NetMore", spec := "netMore", unfollowed := true, recurses := true, apart := false }
def NetMoreSaid : Prop := netMoreRow.holds Try.pinned (OpenSpec.ofChange netMoreSpec)

/-- ITS FALSE NEIGHBOUR: 'it returns false'. Refute it at one input. -/
def netMoreWrong : ChangeSpec := { name := "netMore", fn := fun _ => fun
  | [d1, d2, d3] => { results := [.lit (.bool false)], args := [d1, d2, d3] }
  | _ => none }
def NetMoreWrongFalsely : Prop := netMoreRow.holds Try.pinned (OpenSpec.ofChange netMoreWrong)

/-- 'coppicerkeep.MachineFront': WHATEVER THE INPUT: true; the input reads as it did. -/
def machineFrontSpec : ChangeSpec := { name := "machineFront", fn := fun _ => fun
  | [d1, d2, d3] => { results := [.lit (.bool true)], args := [d1, d2, d3] }
  | _ => none }
def machineFrontRow : OpenClaim := { program := "ytiiankjmeodjdaa", sum := "a112feba836b74962e2c7e5b52b3f9857093837db633b307d4b381c5c1d02602", func := "coppicer/coppicerkeep.MachineFront", spec := "machineFront", unfollowed := true, recurses := true, apart := false }
def MachineFrontSaid : Prop := machineFrontRow.holds Try.pinned (OpenSpec.ofChange machineFrontSpec)

/-- ITS FALSE NEIGHBOUR: 'it returns false'. Refute it at one input. -/
def machineFrontWrong : ChangeSpec := { name := "machineFront", fn := fun _ => fun
  | [d1, d2, d3] => { results := [.lit (.bool false)], args := [d1, d2, d3] }
  | _ => none }
def MachineFrontWrongFalsely : Prop := machineFrontRow.holds Try.pinned (OpenSpec.ofChange machineFrontWrong)

/-- 'coppicerkeep.NetBack': WHATEVER THE INPUT: true; the input reads as it did. -/
def netBackSpec : ChangeSpec := { name := "netBack", fn := fun _ => fun
  | [d1, d2] => { results := [.lit (.bool true)], args := [d1, d2] }
  | _ => none }
def netBackRow : OpenClaim := { program := "ytiiankjmeodjdaa", sum := "a112feba836b74962e2c7e5b52b3f9857093837db633b307d4b381c5c1d02602", func := "coppicer/coppicerkeep.NetBack", spec := "netBack", unfollowed := true, recurses := true, apart := false }
def NetBackSaid : Prop := netBackRow.holds Try.pinned (OpenSpec.ofChange netBackSpec)

/-- ITS FALSE NEIGHBOUR: 'it returns false'. Refute it at one input. -/
def netBackWrong : ChangeSpec := { name := "netBack", fn := fun _ => fun
  | [d1, d2] => { results := [.lit (.bool false)], args := [d1, d2] }
  | _ => none }
def NetBackWrongFalsely : Prop := netBackRow.holds Try.pinned (OpenSpec.ofChange netBackWrong)

/-- 'coppicerkeep.TallyPump': WHATEVER THE INPUT: true; the input reads as it did. -/
def tallyPumpSpec : ChangeSpec := { name := "tallyPump", fn := fun _ => fun
  | [d1, d2, d3] => { results := [.lit (.bool true)], args := [d1, d2, d3] }
  | _ => none }
def tallyPumpRow : OpenClaim := { program := "ytiiankjmeodjdaa", sum := "a112feba836b74962e2c7e5b52b3f9857093837db633b307d4b381c5c1d02602", func := "coppicer/coppicerkeep.TallyPump", spec := "tallyPump", unfollowed := true, recurses := true, apart := false }
def TallyPumpSaid : Prop := tallyPumpRow.holds Try.pinned (OpenSpec.ofChange tallyPumpSpec)

/-- ITS FALSE NEIGHBOUR: 'it returns false'. Refute it at one input. -/
def tallyPumpWrong : ChangeSpec := { name := "tallyPump", fn := fun _ => fun
  | [d1, d2, d3] => { results := [.lit (.bool false)], args := [d1, d2, d3] }
  | _ => none }
def TallyPumpWrongFalsely : Prop := tallyPumpRow.holds Try.pinned (OpenSpec.ofChange tallyPumpWrong)

/-- 'coppicerkeep.TurnerFront': WHATEVER THE INPUT: true; the input reads as it did. -/
def turnerFrontSpec : ChangeSpec := { name := "turnerFront", fn := fun _ => fun
  | [d1, d2, d3] => { results := [.lit (.bool true)], args := [d1, d2, d3] }
  | _ => none }
def turnerFrontRow : OpenClaim := { program := "ytiiankjmeodjdaa", sum := "a112feba836b74962e2c7e5b52b3f9857093837db633b307d4b381c5c1d02602", func := "coppicer/coppicerkeep.TurnerFront", spec := "turnerFront", unfollowed := true, recurses := true, apart := false }
def TurnerFrontSaid : Prop := turnerFrontRow.holds Try.pinned (OpenSpec.ofChange turnerFrontSpec)

/-- ITS FALSE NEIGHBOUR: 'it returns false'. Refute it at one input. -/
def turnerFrontWrong : ChangeSpec := { name := "turnerFront", fn := fun _ => fun
  | [d1, d2, d3] => { results := [.lit (.bool false)], args := [d1, d2, d3] }
  | _ => none }
def TurnerFrontWrongFalsely : Prop := turnerFrontRow.holds Try.pinned (OpenSpec.ofChange turnerFrontWrong)

/-- 'coppicerkeep.TurnerThen': WHATEVER THE INPUT: true; the input reads as it did. -/
def turnerThenSpec : ChangeSpec := { name := "turnerThen", fn := fun _ => fun
  | [d1, d2, d3] => { results := [.lit (.bool true)], args := [d1, d2, d3] }
  | _ => none }
def turnerThenRow : OpenClaim := { program := "ytiiankjmeodjdaa", sum := "a112feba836b74962e2c7e5b52b3f9857093837db633b307d4b381c5c1d02602", func := "coppicer/coppicerkeep.TurnerThen", spec := "turnerThen", unfollowed := true, recurses := true, apart := false }
def TurnerThenSaid : Prop := turnerThenRow.holds Try.pinned (OpenSpec.ofChange turnerThenSpec)

/-- ITS FALSE NEIGHBOUR: 'it returns false'. Refute it at one input. -/
def turnerThenWrong : ChangeSpec := { name := "turnerThen", fn := fun _ => fun
  | [d1, d2, d3] => { results := [.lit (.bool false)], args := [d1, d2, d3] }
  | _ => none }
def TurnerThenWrongFalsely : Prop := turnerThenRow.holds Try.pinned (OpenSpec.ofChange turnerThenWrong)

/-- 'coppicerkeep.MachineSets': WHATEVER THE INPUT: true; the input reads as it did. -/
def machineSetsSpec : ChangeSpec := { name := "machineSets", fn := fun _ => fun
  | [d1, d2, d3] => { results := [.lit (.bool true)], args := [d1, d2, d3] }
  | _ => none }
def machineSetsRow : OpenClaim := { program := "ytiiankjmeodjdaa", sum := "a112feba836b74962e2c7e5b52b3f9857093837db633b307d4b381c5c1d02602", func := "coppicer/coppicerkeep.MachineSets", spec := "machineSets", unfollowed := true, recurses := true, apart := false }
def MachineSetsSaid : Prop := machineSetsRow.holds Try.pinned (OpenSpec.ofChange machineSetsSpec)

/-- ITS FALSE NEIGHBOUR: 'it returns false'. Refute it at one input. -/
def machineSetsWrong : ChangeSpec := { name := "machineSets", fn := fun _ => fun
  | [d1, d2, d3] => { results := [.lit (.bool false)], args := [d1, d2, d3] }
  | _ => none }
def MachineSetsWrongFalsely : Prop := machineSetsRow.holds Try.pinned (OpenSpec.ofChange machineSetsWrong)

/-- 'coppicerkeep.TurnerBefore': WHATEVER THE INPUT: true; the input reads as it did. -/
def turnerBeforeSpec : ChangeSpec := { name := "turnerBefore", fn := fun _ => fun
  | [d1, d2, d3] => { results := [.lit (.bool true)], args := [d1, d2, d3] }
  | _ => none }
def turnerBeforeRow : OpenClaim := { program := "ytiiankjmeodjdaa", sum := "a112feba836b74962e2c7e5b52b3f9857093837db633b307d4b381c5c1d02602", func := "coppicer/coppicerkeep.TurnerBefore", spec := "turnerBefore", unfollowed := true, recurses := true, apart := false }
def TurnerBeforeSaid : Prop := turnerBeforeRow.holds Try.pinned (OpenSpec.ofChange turnerBeforeSpec)

/-- ITS FALSE NEIGHBOUR: 'it returns false'. Refute it at one input. -/
def turnerBeforeWrong : ChangeSpec := { name := "turnerBefore", fn := fun _ => fun
  | [d1, d2, d3] => { results := [.lit (.bool false)], args := [d1, d2, d3] }
  | _ => none }
def TurnerBeforeWrongFalsely : Prop := turnerBeforeRow.holds Try.pinned (OpenSpec.ofChange turnerBeforeWrong)

/-- 'coppicerkeep.NetSure': WHATEVER THE INPUT: true; the input reads as it did. -/
def netSureSpec : ChangeSpec := { name := "netSure", fn := fun _ => fun
  | [d1, d2] => { results := [.lit (.bool true)], args := [d1, d2] }
  | _ => none }
def netSureRow : OpenClaim := { program := "ytiiankjmeodjdaa", sum := "a112feba836b74962e2c7e5b52b3f9857093837db633b307d4b381c5c1d02602", func := "coppicer/coppicerkeep.NetSure", spec := "netSure", unfollowed := true, recurses := true, apart := false }
def NetSureSaid : Prop := netSureRow.holds Try.pinned (OpenSpec.ofChange netSureSpec)

/-- ITS FALSE NEIGHBOUR: 'it returns false'. Refute it at one input. -/
def netSureWrong : ChangeSpec := { name := "netSure", fn := fun _ => fun
  | [d1, d2] => { results := [.lit (.bool false)], args := [d1, d2] }
  | _ => none }
def NetSureWrongFalsely : Prop := netSureRow.holds Try.pinned (OpenSpec.ofChange netSureWrong)

/-- 'coppicerkeep.TallyBack': WHATEVER THE INPUT: true; the input reads as it did. -/
def tallyBackSpec : ChangeSpec := { name := "tallyBack", fn := fun _ => fun
  | [d1, d2, d3] => { results := [.lit (.bool true)], args := [d1, d2, d3] }
  | _ => none }
def tallyBackRow : OpenClaim := { program := "ytiiankjmeodjdaa", sum := "a112feba836b74962e2c7e5b52b3f9857093837db633b307d4b381c5c1d02602", func := "coppicer/coppicerkeep.TallyBack", spec := "tallyBack", unfollowed := true, recurses := true, apart := false }
def TallyBackSaid : Prop := tallyBackRow.holds Try.pinned (OpenSpec.ofChange tallyBackSpec)

/-- ITS FALSE NEIGHBOUR: 'it returns false'. Refute it at one input. -/
def tallyBackWrong : ChangeSpec := { name := "tallyBack", fn := fun _ => fun
  | [d1, d2, d3] => { results := [.lit (.bool false)], args := [d1, d2, d3] }
  | _ => none }
def TallyBackWrongFalsely : Prop := tallyBackRow.holds Try.pinned (OpenSpec.ofChange tallyBackWrong)

/-- 'coppicerkeep.LeastFew': WHATEVER THE INPUT: true; the input reads as it did. -/
def leastFewSpec : ChangeSpec := { name := "leastFew", fn := fun _ => fun
  | [d1, d2, d3] => { results := [.lit (.bool true)], args := [d1, d2, d3] }
  | _ => none }
def leastFewRow : OpenClaim := { program := "ytiiankjmeodjdaa", sum := "a112feba836b74962e2c7e5b52b3f9857093837db633b307d4b381c5c1d02602", func := "coppicer/coppicerkeep.LeastFew", spec := "leastFew", unfollowed := true, recurses := true, apart := false }
def LeastFewSaid : Prop := leastFewRow.holds Try.pinned (OpenSpec.ofChange leastFewSpec)

/-- ITS FALSE NEIGHBOUR: 'it returns false'. Refute it at one input. -/
def leastFewWrong : ChangeSpec := { name := "leastFew", fn := fun _ => fun
  | [d1, d2, d3] => { results := [.lit (.bool false)], args := [d1, d2, d3] }
  | _ => none }
def LeastFewWrongFalsely : Prop := leastFewRow.holds Try.pinned (OpenSpec.ofChange leastFewWrong)

/-- 'coppicerkeep.KindsSame': WHATEVER THE INPUT: true; the input reads as it did. -/
def kindsSameSpec : ChangeSpec := { name := "kindsSame", fn := fun _ => fun
  | [d1, d2, d3, d4, d5] => { results := [.lit (.bool true)], args := [d1, d2, d3, d4, d5] }
  | _ => none }
def kindsSameRow : OpenClaim := { program := "ytiiankjmeodjdaa", sum := "a112feba836b74962e2c7e5b52b3f9857093837db633b307d4b381c5c1d02602", func := "coppicer/coppicerkeep.KindsSame", spec := "kindsSame", unfollowed := true, recurses := true, apart := false }
def KindsSameSaid : Prop := kindsSameRow.holds Try.pinned (OpenSpec.ofChange kindsSameSpec)

/-- ITS FALSE NEIGHBOUR: 'it returns false'. Refute it at one input. -/
def kindsSameWrong : ChangeSpec := { name := "kindsSame", fn := fun _ => fun
  | [d1, d2, d3, d4, d5] => { results := [.lit (.bool false)], args := [d1, d2, d3, d4, d5] }
  | _ => none }
def KindsSameWrongFalsely : Prop := kindsSameRow.holds Try.pinned (OpenSpec.ofChange kindsSameWrong)

/- THE SECOND FORM. 'bulk': how many values and letters a reading holds, each counted each time it is reached (what is shared counts as often as it is met; a slice's spare places count too). A statement '..UptoSaid' is the law's where the arguments, and the package variables that the reading takes, are together of bulk at most 1048576: NARROWER than '..Said'. Prove '..Said' where nothing that the law and all that it calls make is longer than what came in: it says more and counts as full. Else prove '..UptoSaid'. A law counts once. -/
mutual
def uptoBulk {H : Type} : DataW H → Nat
  | .lit (.string bytes) => bytes.length + 1
  | .lit _ => 1
  | .nil => 1
  | .ptr d => uptoBulk d + 1
  | .slice elems spare => uptoBulkAll elems + uptoBulkAll spare + 1
  | .agg parts => uptoBulkAll parts + 1
  | .iface _ d => uptoBulk d + 1
  | .map entries => uptoBulkEntries entries + 1
  | .held _ => 1
def uptoBulkAll {H : Type} : List (DataW H) → Nat
  | [] => 0
  | d :: r => uptoBulk d + uptoBulkAll r
def uptoBulkEntries {H : Type} : List (Lit × DataW H) → Nat
  | [] => 0
  | x :: r => uptoBulkEntry x + uptoBulkEntries r
def uptoBulkEntry {H : Type} : Lit × DataW H → Nat
  | (.string bytes, d) => bytes.length + uptoBulk d + 1
  | (_, d) => uptoBulk d + 1
 end
def uptoSmall : (H : Type) → List (DataW H) → Bool := fun _ ds => decide (uptoBulkAll ds ≤ 1048576)
def OpenSpec.upto (s : _root_.Go.ChangeSpec) : _root_.Go.OpenSpec := { _root_.Go.OpenSpec.ofChange s with cond := some uptoSmall }

/-- 'coppicerkeep.NetMore', WHERE WHAT IT READS IS OF BULK AT MOST 1048576: true; the input reads as it did. -/
def netMoreUptoRow : OpenClaim := { program := "ytiiankjmeodjdaa", sum := "a112feba836b74962e2c7e5b52b3f9857093837db633b307d4b381c5c1d02602", func := "coppicer/coppicerkeep.NetMore", spec := "netMore", unfollowed := true, recurses := true, apart := false, narrowed := true }
def NetMoreUptoSaid : Prop := netMoreUptoRow.holds Try.pinned (OpenSpec.upto netMoreSpec)

/-- 'coppicerkeep.MachineFront', WHERE WHAT IT READS IS OF BULK AT MOST 1048576: true; the input reads as it did. -/
def machineFrontUptoRow : OpenClaim := { program := "ytiiankjmeodjdaa", sum := "a112feba836b74962e2c7e5b52b3f9857093837db633b307d4b381c5c1d02602", func := "coppicer/coppicerkeep.MachineFront", spec := "machineFront", unfollowed := true, recurses := true, apart := false, narrowed := true }
def MachineFrontUptoSaid : Prop := machineFrontUptoRow.holds Try.pinned (OpenSpec.upto machineFrontSpec)

/-- 'coppicerkeep.NetBack', WHERE WHAT IT READS IS OF BULK AT MOST 1048576: true; the input reads as it did. -/
def netBackUptoRow : OpenClaim := { program := "ytiiankjmeodjdaa", sum := "a112feba836b74962e2c7e5b52b3f9857093837db633b307d4b381c5c1d02602", func := "coppicer/coppicerkeep.NetBack", spec := "netBack", unfollowed := true, recurses := true, apart := false, narrowed := true }
def NetBackUptoSaid : Prop := netBackUptoRow.holds Try.pinned (OpenSpec.upto netBackSpec)

/-- 'coppicerkeep.TallyPump', WHERE WHAT IT READS IS OF BULK AT MOST 1048576: true; the input reads as it did. -/
def tallyPumpUptoRow : OpenClaim := { program := "ytiiankjmeodjdaa", sum := "a112feba836b74962e2c7e5b52b3f9857093837db633b307d4b381c5c1d02602", func := "coppicer/coppicerkeep.TallyPump", spec := "tallyPump", unfollowed := true, recurses := true, apart := false, narrowed := true }
def TallyPumpUptoSaid : Prop := tallyPumpUptoRow.holds Try.pinned (OpenSpec.upto tallyPumpSpec)

/-- 'coppicerkeep.TurnerFront', WHERE WHAT IT READS IS OF BULK AT MOST 1048576: true; the input reads as it did. -/
def turnerFrontUptoRow : OpenClaim := { program := "ytiiankjmeodjdaa", sum := "a112feba836b74962e2c7e5b52b3f9857093837db633b307d4b381c5c1d02602", func := "coppicer/coppicerkeep.TurnerFront", spec := "turnerFront", unfollowed := true, recurses := true, apart := false, narrowed := true }
def TurnerFrontUptoSaid : Prop := turnerFrontUptoRow.holds Try.pinned (OpenSpec.upto turnerFrontSpec)

/-- 'coppicerkeep.TurnerThen', WHERE WHAT IT READS IS OF BULK AT MOST 1048576: true; the input reads as it did. -/
def turnerThenUptoRow : OpenClaim := { program := "ytiiankjmeodjdaa", sum := "a112feba836b74962e2c7e5b52b3f9857093837db633b307d4b381c5c1d02602", func := "coppicer/coppicerkeep.TurnerThen", spec := "turnerThen", unfollowed := true, recurses := true, apart := false, narrowed := true }
def TurnerThenUptoSaid : Prop := turnerThenUptoRow.holds Try.pinned (OpenSpec.upto turnerThenSpec)

/-- 'coppicerkeep.MachineSets', WHERE WHAT IT READS IS OF BULK AT MOST 1048576: true; the input reads as it did. -/
def machineSetsUptoRow : OpenClaim := { program := "ytiiankjmeodjdaa", sum := "a112feba836b74962e2c7e5b52b3f9857093837db633b307d4b381c5c1d02602", func := "coppicer/coppicerkeep.MachineSets", spec := "machineSets", unfollowed := true, recurses := true, apart := false, narrowed := true }
def MachineSetsUptoSaid : Prop := machineSetsUptoRow.holds Try.pinned (OpenSpec.upto machineSetsSpec)

/-- 'coppicerkeep.TurnerBefore', WHERE WHAT IT READS IS OF BULK AT MOST 1048576: true; the input reads as it did. -/
def turnerBeforeUptoRow : OpenClaim := { program := "ytiiankjmeodjdaa", sum := "a112feba836b74962e2c7e5b52b3f9857093837db633b307d4b381c5c1d02602", func := "coppicer/coppicerkeep.TurnerBefore", spec := "turnerBefore", unfollowed := true, recurses := true, apart := false, narrowed := true }
def TurnerBeforeUptoSaid : Prop := turnerBeforeUptoRow.holds Try.pinned (OpenSpec.upto turnerBeforeSpec)

/-- 'coppicerkeep.NetSure', WHERE WHAT IT READS IS OF BULK AT MOST 1048576: true; the input reads as it did. -/
def netSureUptoRow : OpenClaim := { program := "ytiiankjmeodjdaa", sum := "a112feba836b74962e2c7e5b52b3f9857093837db633b307d4b381c5c1d02602", func := "coppicer/coppicerkeep.NetSure", spec := "netSure", unfollowed := true, recurses := true, apart := false, narrowed := true }
def NetSureUptoSaid : Prop := netSureUptoRow.holds Try.pinned (OpenSpec.upto netSureSpec)

/-- 'coppicerkeep.TallyBack', WHERE WHAT IT READS IS OF BULK AT MOST 1048576: true; the input reads as it did. -/
def tallyBackUptoRow : OpenClaim := { program := "ytiiankjmeodjdaa", sum := "a112feba836b74962e2c7e5b52b3f9857093837db633b307d4b381c5c1d02602", func := "coppicer/coppicerkeep.TallyBack", spec := "tallyBack", unfollowed := true, recurses := true, apart := false, narrowed := true }
def TallyBackUptoSaid : Prop := tallyBackUptoRow.holds Try.pinned (OpenSpec.upto tallyBackSpec)

/-- 'coppicerkeep.LeastFew', WHERE WHAT IT READS IS OF BULK AT MOST 1048576: true; the input reads as it did. -/
def leastFewUptoRow : OpenClaim := { program := "ytiiankjmeodjdaa", sum := "a112feba836b74962e2c7e5b52b3f9857093837db633b307d4b381c5c1d02602", func := "coppicer/coppicerkeep.LeastFew", spec := "leastFew", unfollowed := true, recurses := true, apart := false, narrowed := true }
def LeastFewUptoSaid : Prop := leastFewUptoRow.holds Try.pinned (OpenSpec.upto leastFewSpec)

/-- 'coppicerkeep.KindsSame', WHERE WHAT IT READS IS OF BULK AT MOST 1048576: true; the input reads as it did. -/
def kindsSameUptoRow : OpenClaim := { program := "ytiiankjmeodjdaa", sum := "a112feba836b74962e2c7e5b52b3f9857093837db633b307d4b381c5c1d02602", func := "coppicer/coppicerkeep.KindsSame", spec := "kindsSame", unfollowed := true, recurses := true, apart := false, narrowed := true }
def KindsSameUptoSaid : Prop := kindsSameUptoRow.holds Try.pinned (OpenSpec.upto kindsSameSpec)

end Rows
end Go.Proofs.Ytiiankjmeodjdaa
