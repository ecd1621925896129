-- Written by ext.py, a program of this session.
import Derived.Test.YtkjhddjenkocjaaRows
import Derived.Test.YtkjhddjenkocjaaGL5
import Derived.Test.YtkjhddjenkocjaaPureLyndonOne
import Derived.WalkKit
import Derived.ProofKit
import Derived.OpenShut
import Derived.ShutString
import Derived.ChangeOld
import Derived.Below
import Derived.SizedLaws
import Derived.Test.YtkjhddjenkocjaaOpn
namespace Go.Proofs.Ytkjhddjenkocjaa.lyndonOne
open Go.ChangeShapes Go.WideShapes Go.ChangeAt Go.RowKit Go.Proofs.Ytkjhddjenkocjaa.GL Go.Proofs.YtkjhddjenkocjaaW.PrintWords
open Go.ChangeMaps (open_string shut_string)
set_option linter.unusedVariables false
theorem own : ownKnob Try.prog.godebug = none := by kernel_rfl
theorem laidOut : laidOutB Try.prog = true := by kernel_rfl
theorem one_le {H : Type} (d : DataW H) : 1 ≤ Rows.uptoBulk d := by
  cases d with
  | lit l => cases l <;> simp [Rows.uptoBulk]
  | _ => simp [Rows.uptoBulk]
theorem len_le {H : Type} (l : List (DataW H)) : l.length ≤ Rows.uptoBulkAll l := by
  induction l with
  | nil => simp [Rows.uptoBulkAll]
  | cons x l ih => have := one_le x; simp only [Rows.uptoBulkAll, List.length_cons]; omega
theorem part_le {H : Type} {d : DataW H} : ∀ {l : List (DataW H)}, d ∈ l → Rows.uptoBulk d ≤ Rows.uptoBulkAll l
  | x :: r, h => by
    simp only [Rows.uptoBulkAll]
    rcases List.mem_cons.1 h with e | e
    · subst e; omega
    · have := part_le e; omega
theorem row_le {H : Type} {d : DataW H} {n : Nat} {l : List (DataW H)} (hk : Rows.uptoSmall H l = true) (hd : d ∈ l) (h : n = 0 ∨ ∃ es sp, d = .slice es sp ∧ es.length = n) : n ≤ 1048576 := by
  have h1 : Rows.uptoBulkAll l ≤ 1048576 := of_decide_eq_true hk
  have h2 := part_le hd
  rcases h with h | ⟨es, sp, rfl, rfl⟩
  · omega
  · have := len_le es
    simp only [Rows.uptoBulk] at h2
    omega
set_option maxRecDepth 100000 in
theorem lifted (os : Os) (started : os.Started) (H : Type) (enc : TypeId × Value → H) (F : Stop.Interp) :
    ReturnsInHanded {} Try.checked os 10 .any ((Rows.OpenSpec.upto Rows.lyndonOneSpec).pre6 enc Try.prog Try.f10 Rows.lyndonOneUptoRow.domain false) (((Rows.OpenSpec.upto Rows.lyndonOneSpec).at F).post enc Try.prog Try.f10 false true false false) := by
  refine returns_cond_sized (C := Try.checked) (s := Rows.OpenSpec.upto Rows.lyndonOneSpec) (k := Rows.uptoSmall) rfl own started (by kernel_rfl) Try.func10
    (OpenSpec.witness (enc := enc) (C := Try.checked) (s := Rows.OpenSpec.upto Rows.lyndonOneSpec) (k := Rows.uptoSmall) rfl false ⟨#[], #[.slice none 0 0], []⟩ 8 (by kernel_rfl) (by kernel_rfl) (by kernel_rfl) (x := ([.nil], [], [])) (by kernel_rfl) rfl (by kernel_rfl)) ?_
  intro W base args ds gs before hval0 hW hkk hsz0
  have hsz : (DataW.weightsEach Try.prog (Try.f10.params.toList ++ Rows.lyndonOneSpec.plain.varTypes Try.prog) (ds ++ gs)).all (· ≤ reachBytes) = true := hsz0
  have hval : ∀ (j : Nat) t v, Try.f10.params[j]? = some t → args[j]? = some v → Value.okWide Try.prog W .any base t v := hval0
  have hW' := hW
  obtain ⟨p, q, hA0, hV, rfl, hfz, hnd⟩ := hW
  have hA : DataW.TrodAll enc Try.prog W 0 (fun _ => true) true Try.f10.params.toList args.toList ds p := hA0
  rw [Try.params10] at hA hval hsz
  obtain ⟨v0, vs0, d0, ds0, p0, q0, hargs, rfl, rfl, h0, r0⟩ := trodAll_cons hA
  obtain ⟨rfl, rfl, rfl⟩ := trodAll_nil r0
  obtain rfl : args = #[v0] := by cases args; simp_all
  obtain ⟨rfl, rfl⟩ := trodVars_none hV
  have k0 := h0
  have lt0 : ∀ x ∈ p0, x.block < W.heap.size := by obtain ⟨m, hm⟩ := k0; exact DataW.trod_lt m _ _ _ hm
  obtain ⟨a0, len0, cap0, rfl⟩ := okWide_slice Try.underlying66 (hval 0 66 v0 rfl rfl)
  obtain ⟨fuel0, hf0⟩ := h0
  obtain ⟨A0, c0, l0, he0, hc0, hr0, w0⟩ := Opn.row (B := 24) (Opn.slice (B := 1) (Opn.int Try.underlying5) Try.underlying56 (by kernel_rfl) (by kernel_rfl)) Try.underlying66 (by kernel_rfl) (by kernel_rfl) hf0 (opn_weights hsz (j := 0) (t := 66) rfl rfl)
  simp only [Value.cells, List.cons.injEq, Value.slice.injEq, and_true] at he0
  obtain ⟨rfl, rfl, rfl⟩ := he0
  clear hA0 hval0 hsz0 hsz
  refine (GL.coppicerkeep_LyndonOne.walk Pure.LyndonOne _ l0 _ W hr0 hc0 w0 (row_le hkk (by simp) (Opn.row_len Try.underlying66 hf0))).mono fun e W' ⟨he, bel⟩ => ?_
  subst he
  exact ⟨_, rfl, _, _, _, [], _, [], hW', trodAll_mk1 (shut_bool Try.underlying4 _), (trodAll_cons_mk (Below.trod laidOut (by kernel_rfl) (of_decide_eq_true (by kernel_rfl)) k0 bel lt0) trodAll_mk0), rfl, bel.frame _, fun h => by cases h⟩
theorem over : Rows.lyndonOneUptoRow.holds Try.pinned (Rows.OpenSpec.upto Rows.lyndonOneSpec) :=
  OpenClaim.holds_of_cond 10 Try.f10 rfl rfl rfl rfl rfl rfl rfl ⟨rfl, rfl, rfl, rfl, rfl⟩ rfl rfl rfl rfl rfl (by kernel_rfl) Try.func10 (by kernel_rfl)
    (of_decide_eq_true (by kernel_rfl)) (by unfold Func.isWrapper; first | (rw [if_pos (by decide +kernel)]; kernel_rfl) | (rw [if_neg (by decide +kernel)]; exact ⟨rfl, rfl⟩))
    (fun os started H enc _ F => lifted os started H enc F)
theorem proved : Rows.LyndonOneUptoSaid := over
#print axioms proved
end Go.Proofs.Ytkjhddjenkocjaa.lyndonOne
namespace Go.Proofs.Ytkjhddjenkocjaa
/-- The row, under a short name, for the claim. -/
theorem lyndonOneUpto_holds : Rows.LyndonOneUptoSaid := lyndonOne.proved
end Go.Proofs.Ytkjhddjenkocjaa
