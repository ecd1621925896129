-- Written by ext.py, a program of this session.
import Derived.Test.YthgiiikjcfhgjaaProg
import Derived.Below
import Derived.Deep.Draws
import Derived.Deep.AppendLies
import Derived.Maps.AppendAt
import Derived.OwnWalk
import Derived.Laws.BytesArg
import Derived.Laws.MakeOwn
import Derived.Laws.OwnMore
import Derived.Deep.OwnRows
import Derived.Tactics
import Derived.Lib.ConvBytes
import Derived.Laws.Slices
import Derived.WalkKit
import Derived.KernelRfl
import Derived.RowKit3
import Derived.Deep.LoopGhost
import Derived.Deep.QuietTactic
import Derived.BigQuiet
import Derived.WideLaws
import Derived.Deep.DeepCutAuto
import Derived.Deep.CutBlock
import Derived.Deep.RegionHeld3
import Derived.Laws.Rows
import Derived.Lib.AppendStr
import Derived.ArgAppend
import Derived.Laws.IdiomCopy
import Derived.OrdersHeld
import Derived.Laws.BitsLemmas
import Derived.RowKit
import Derived.Lib.BytesEntry
import Derived.Lib.Bytealg
import Derived.Laws.Externs
import Derived.WalkSpells
import Derived.Test.YthgiiikjcfhgjaaOpn
import Derived.Shelf.Abstract
import Derived.Maps.OwnSet
import Derived.Maps.Views
import Derived.Carry
import Derived.DeepKeys4
import Derived.Maps.Range
import Derived.Deep.RegionHeld3
import Derived.Laws.EntriesVeiled
import Derived.Test.YthgiiikjcfhgjaaWWords
import Derived.Test.YthgiiikjcfhgjaaWLast
import Derived.Test.YthgiiikjcfhgjaaWTab
import Derived.Test.YthgiiikjcfhgjaaWFour
import Derived.Test.YthgiiikjcfhgjaaWQPut
import Derived.Test.YthgiiikjcfhgjaaWApart
import Derived.Test.YthgiiikjcfhgjaaWArr
import Derived.Test.YthgiiikjcfhgjaaWZeros
import Derived.Test.YthgiiikjcfhgjaaWFoot
import Derived.Test.YthgiiikjcfhgjaaWKept
import Derived.Test.YthgiiikjcfhgjaaWShare
import Derived.Test.YthgiiikjcfhgjaaWN
import Derived.Test.YthgiiikjcfhgjaaWFootNe
import Derived.Test.YthgiiikjcfhgjaaWAt
import Derived.Test.YthgiiikjcfhgjaaWEqStruct
import Derived.Test.YthgiiikjcfhgjaaWRepsOne
import Derived.Test.YthgiiikjcfhgjaaWInv
import Derived.Test.YthgiiikjcfhgjaaWInvWords
import Derived.Test.YthgiiikjcfhgjaaWGuard
import Derived.Test.YthgiiikjcfhgjaaWNEv
import Derived.Test.YthgiiikjcfhgjaaWMore
namespace Go.Proofs.Ythgiiikjcfhgjaa.GC
open Go.RowKit Go.Proofs.YthgiiikjcfhgjaaW.PrintWords Go.Proofs.YthgiiikjcfhgjaaW.PrintLast Go.Proofs.YthgiiikjcfhgjaaW.PrintMore
attribute [local go_sem] max2_int min2_int max_two min_two max_three min_three max_four min_four cellIs_set   -- for this text's walks alone
set_option linter.unusedVariables false
set_option linter.unusedSimpArgs false



def errW : Option Int → Value
  | none => .nilIface
  | some c => .iface 0 (.int .i64 c)
theorem errW_none : errW none = .nilIface := rfl
theorem errW_some (c : Int) : errW (some c) = .iface 0 (.int .i64 c) := rfl

theorem info3 : (Try.prog.info? 3).map (fun i => (i.zero, i.size, i.bytes)) = some (some (.int .i64 0), 1, 8) := by kernel_rfl
theorem info94 : (Try.prog.info? 94).map (fun i => (i.zero, i.size, i.bytes)) = some (some (.agg #[(.int .i64 0), (.bool false)]), 2, 16) := by kernel_rfl
-- the values' own types
/-! #### struct type 94 -/
structure S94 where
  f0 : Int
  f1 : Bool
def z94 : S94 := ⟨(0 : Int), false⟩
def k94 : Kd S94 := Kd.iso (Kd.pair (Kd.int .i64) Kd.bool) (fun x : S94 => (x.f0, x.f1))
theorem k94_heap : Kd.Heap k94 := Kd.heap_iso _ (Kd.heap_pair (Kd.heap_int .i64) Kd.heap_bool)
theorem k94_open {w : World} {x : S94} {cs : List Value} (h : k94.K w x cs) : cs = [.int .i64 x.f0, .bool x.f1] := by
  obtain ⟨_, _, rfl, rfl, rfl⟩ := h
  exact rfl
theorem k94_openM {w : World} {base : Nat} {ok : Nat → Prop} {x : S94} {cs : List Value} (h : k94.M w base ok x cs) : cs = [.int .i64 x.f0, .bool x.f1] := by
  obtain ⟨_, _, rfl, rfl, rfl⟩ := h
  exact rfl
theorem k94_mk (w : World) (x : S94)  : k94.K w x [.int .i64 x.f0, .bool x.f1] := ⟨[.int .i64 x.f0], [.bool x.f1], rfl, rfl, rfl⟩
theorem k94_mkM (w : World) (base : Nat) (ok : Nat → Prop) (x : S94)  : k94.M w base ok x [.int .i64 x.f0, .bool x.f1] := ⟨[.int .i64 x.f0], [.bool x.f1], rfl, rfl, rfl⟩
def rd_T94 (xs : List S94) (i : Int) : S94 := xs.getD i.toNat z94
theorem at_T94 {w : World} {A : Option Addr} {n : Nat} {xs : List S94} (h : Kd.C k94 w A n xs) (i : Int) (h0 : 0 ≤ i) (h1 : i < n) : ∃ ad , A = some ad ∧ w.cell? (ad.add (i.toNat * 2)) = some (.int .i64 (rd_T94 xs i).f0) ∧ w.cell? ⟨(ad.add (i.toNat * 2)).block, (ad.add (i.toNat * 2)).off + 1, none⟩ = some (.bool (rd_T94 xs i).f1) := by
  obtain ⟨ad, c, e, _, hK, hc0⟩ := Kd.C_get h z94 i h0 h1
  have hc : ∀ j u, c[j]? = some u → w.cell? (ad.add (i.toNat * 2 + j)) = some u := hc0
  obtain rfl := k94_open hK
  exact ⟨ad, e, hc 0 _ rfl, by rw [← add_field _ _ 1 (by omega)]; exact hc 1 _ rfl⟩

def rd_L3 (xs : List (List Int)) (i : Int) : (List Int) := xs.getD i.toNat ([] : List Int)
theorem at_L3 {w : World} {A : Option Addr} {n : Nat} {xs : List (List Int)} (h : Kd.C (Kd.slice 3 (Kd.int .i64)) w A n xs) (i : Int) (h0 : 0 ≤ i) (h1 : i < n) : ∃ ad A0 c0, A = some ad ∧ w.cell? (ad.add i.toNat) = some (.slice A0 (rd_L3 xs i).length c0) ∧ (rd_L3 xs i).length ≤ c0 ∧ (Kd.int .i64).C w A0 (rd_L3 xs i).length (rd_L3 xs i) := by
  obtain ⟨ad, c, e, _, hK, hc0⟩ := Kd.C_get h ([] : List Int) i h0 h1
  have hc : ∀ j u, c[j]? = some u → w.cell? (ad.add (i.toNat * 1 + j)) = some u := hc0
  obtain ⟨A0, c0, rfl, l0, g0⟩ := hK
  exact ⟨ad, A0, c0, e, by have hq := hc 0 _ rfl; rwa [Nat.mul_one, Nat.add_zero] at hq, l0, g0⟩

def rd_L4 (xs : List (List S94)) (i : Int) : (List S94) := xs.getD i.toNat ([] : List S94)
theorem at_L4 {w : World} {A : Option Addr} {n : Nat} {xs : List (List S94)} (h : Kd.C (Kd.slice 94 k94) w A n xs) (i : Int) (h0 : 0 ≤ i) (h1 : i < n) : ∃ ad A0 c0, A = some ad ∧ w.cell? (ad.add i.toNat) = some (.slice A0 (rd_L4 xs i).length c0) ∧ (rd_L4 xs i).length ≤ c0 ∧ k94.C w A0 (rd_L4 xs i).length (rd_L4 xs i) := by
  obtain ⟨ad, c, e, _, hK, hc0⟩ := Kd.C_get h ([] : List S94) i h0 h1
  have hc : ∀ j u, c[j]? = some u → w.cell? (ad.add (i.toNat * 1 + j)) = some u := hc0
  obtain ⟨A0, c0, rfl, l0, g0⟩ := hK
  exact ⟨ad, A0, c0, e, by have hq := hc 0 _ rfl; rwa [Nat.mul_one, Nat.add_zero] at hq, l0, g0⟩

def wf94 (x : S94) : Prop := ((Lit.int .i64 x.f0).wf = true) ∧ (True)
theorem opn94 : Opn Try.prog k94 94 wf94 := (Opn.iso (fun x : S94 => (x.f0, x.f1)) (fun y_ => (⟨y_.1, y_.2⟩ : S94)) (fun _ => rfl) (Opn.struct Try.underlying94 (by kernel_rfl) (OpnF.cons (Opn.int Try.underlying3) rfl (by kernel_rfl) (OpnF.one (Opn.bool Try.underlying4) rfl (by kernel_rfl))))).imp (fun _ h => h)
end Go.Proofs.Ythgiiikjcfhgjaa.GC
