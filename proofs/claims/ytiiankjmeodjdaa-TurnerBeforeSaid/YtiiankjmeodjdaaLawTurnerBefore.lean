-- Written by ext.py, a program of this session.
import Derived.Test.YtiiankjmeodjdaaRows
import Derived.Test.YtiiankjmeodjdaaGV11
import Derived.Test.YtiiankjmeodjdaaPureTurnerBefore
import Derived.WalkKit
import Derived.ProofKit
import Derived.OpenShut
import Derived.ShutString
import Derived.ChangeOld
import Derived.Below
import Derived.SizedLaws
import Derived.Test.YtiiankjmeodjdaaOpn
namespace Go.Proofs.Ytiiankjmeodjdaa.turnerBefore
open Go.ChangeShapes Go.WideShapes Go.ChangeAt Go.RowKit Go.Proofs.Ytiiankjmeodjdaa.GV Go.Proofs.YtiiankjmeodjdaaW.PrintWords
open Go.ChangeMaps (open_string shut_string)
set_option linter.unusedVariables false
theorem own : ownKnob Try.prog.godebug = none := by kernel_rfl
theorem laidOut : laidOutB Try.prog = true := by kernel_rfl
set_option maxRecDepth 100000 in
theorem lifted (os : Os) (started : os.Started) (H : Type) (enc : TypeId × Value → H) :
    ReturnsInHanded {} Try.checked os 10 .any (Rows.turnerBeforeSpec.pre6 enc Try.prog Try.f10 Rows.turnerBeforeRow.domain false) (Rows.turnerBeforeSpec.post enc Try.prog Try.f10 false true false false) := by
  refine returnsInHanded_of_change_sized (C := Try.checked) own started (by kernel_rfl) Try.func10
    (ChangeSpec.witness6 (enc := enc) (C := Try.checked) false ⟨#[], #[.agg #[.int .i64 0, .int .i64 0, .int .i64 0, .slice none 0 0, .slice none 0 0, .int .i64 0], .agg #[.int .i64 0, .int .i64 0, .slice none 0 0, .int .i64 0, .int .u32 0], .slice none 0 0], []⟩ 8 (by kernel_rfl) (by kernel_rfl) (by kernel_rfl) (by kernel_rfl)) ?_
  intro W base args ds gs before hval0 hW hcnd hsz0 _
  have hsz : (DataW.weightsEach Try.prog (Try.f10.params.toList ++ Rows.turnerBeforeSpec.plain.varTypes Try.prog) (ds ++ gs)).all (· ≤ reachBytes) = true := hsz0
  have hval : ∀ (j : Nat) t v, Try.f10.params[j]? = some t → args[j]? = some v → Value.okWide Try.prog W .any base t v := hval0
  have hW' := hW
  obtain ⟨p, q, hA0, hV, rfl, hfz, hnd⟩ := hW
  have hA : DataW.TrodAll enc Try.prog W 0 (fun _ => true) true Try.f10.params.toList args.toList ds p := hA0
  rw [Try.params10] at hA hval hsz
  obtain ⟨v0, vs0, d0, ds0, p0, q0, hargs, rfl, rfl, h0, r0⟩ := trodAll_cons hA
  obtain ⟨v1, vs1, d1, ds1, p1, q1, rfl, rfl, rfl, h1, r1⟩ := trodAll_cons r0
  obtain ⟨v2, vs2, d2, ds2, p2, q2, rfl, rfl, rfl, h2, r2⟩ := trodAll_cons r1
  obtain ⟨rfl, rfl, rfl⟩ := trodAll_nil r2
  obtain rfl : args = #[v0, v1, v2] := by cases args; simp_all
  obtain ⟨rfl, rfl⟩ := trodVars_none hV
  have k0 := h0
  have lt0 : ∀ x ∈ p0, x.block < W.heap.size := by obtain ⟨m, hm⟩ := k0; exact DataW.trod_lt m _ _ _ hm
  obtain ⟨cs0, rfl, _⟩ := okWide_struct Try.underlying50 (hval 0 50 v0 rfl rfl)
  obtain ⟨fuel0, hf0⟩ := h0
  obtain ⟨y0, hy0, wf_0⟩ := opn50.op hf0 (opn_weights hsz (j := 0) (t := 50) rfl rfl)
  replace hy0 : k50.K W y0 cs0.toList := hy0
  obtain ⟨A0_3, c0_3, A0_4, c0_4, he0, hc0_3, hr0_3, hc0_4, hr0_4⟩ := k50_open hy0
  obtain rfl : cs0 = #[.int .i64 y0.f0, .int .i64 y0.f1, .int .i64 y0.f2, .slice A0_3 y0.f3.length c0_3, .slice A0_4 y0.f4.length c0_4, .int .i64 y0.f5] := by rw [← Array.toList_inj, he0]
  have k1 := h1
  have lt1 : ∀ x ∈ p1, x.block < W.heap.size := by obtain ⟨m, hm⟩ := k1; exact DataW.trod_lt m _ _ _ hm
  obtain ⟨cs1, rfl, _⟩ := okWide_struct Try.underlying37 (hval 1 37 v1 rfl rfl)
  obtain ⟨fuel1, hf1⟩ := h1
  obtain ⟨y1, hy1, wf_1⟩ := opn37.op hf1 (opn_weights hsz (j := 1) (t := 37) rfl rfl)
  replace hy1 : k37.K W y1 cs1.toList := hy1
  obtain ⟨A1_2, c1_2, he1, hc1_2, hr1_2⟩ := k37_open hy1
  obtain rfl : cs1 = #[.int .i64 y1.f0, .int .i64 y1.f1, .slice A1_2 y1.f2.length c1_2, .int .i64 y1.f3, .int .u32 y1.f4] := by rw [← Array.toList_inj, he1]
  have k2 := h2
  have lt2 : ∀ x ∈ p2, x.block < W.heap.size := by obtain ⟨m, hm⟩ := k2; exact DataW.trod_lt m _ _ _ hm
  obtain ⟨a2, len2, cap2, rfl⟩ := okWide_slice Try.underlying28 (hval 2 28 v2 rfl rfl)
  obtain ⟨fuel2, hf2⟩ := h2
  obtain ⟨A2, c2, l2, he2, hc2, hr2, w2⟩ := Opn.row (B := 8) (Opn.int Try.underlying3) Try.underlying28 (by kernel_rfl) (by kernel_rfl) hf2 (opn_weights hsz (j := 2) (t := 28) rfl rfl)
  simp only [Value.cells, List.cons.injEq, Value.slice.injEq, and_true] at he2
  obtain ⟨rfl, rfl, rfl⟩ := he2
  clear hA0 hval0 hsz0 hsz
  refine (GV.coppicerkeep_TurnerBefore.walk Pure.TurnerBefore y0.f0 y0.f1 y0.f2 _ y0.f3 _ _ y0.f4 _ y0.f5 y1.f0 y1.f1 _ y1.f2 _ y1.f3 y1.f4 _ l2 _ W wf_0.1 wf_0.2.1 wf_0.2.2.1 hr0_3 hc0_3 wf_0.2.2.2.1 hr0_4 hc0_4 wf_0.2.2.2.2.1 wf_0.2.2.2.2.2 wf_1.1 wf_1.2.1 hr1_2 hc1_2 wf_1.2.2.1 wf_1.2.2.2.1 wf_1.2.2.2.2 hr2 hc2 w2).mono fun e W' ⟨he, bel⟩ => ?_
  subst he
  exact ⟨_, rfl, _, _, _, [], _, [], hW', trodAll_mk1 (shut_bool Try.underlying4 _), (trodAll_cons_mk (Below.trod laidOut (by kernel_rfl) (of_decide_eq_true (by kernel_rfl)) k0 bel lt0) (trodAll_cons_mk (Below.trod laidOut (by kernel_rfl) (of_decide_eq_true (by kernel_rfl)) k1 bel lt1) (trodAll_cons_mk (Below.trod laidOut (by kernel_rfl) (of_decide_eq_true (by kernel_rfl)) k2 bel lt2) trodAll_mk0))), rfl, bel.frame _, fun h => by cases h⟩
theorem over : Rows.turnerBeforeRow.holds Try.pinned (OpenSpec.ofChange Rows.turnerBeforeSpec) :=
  OpenClaim.holds_of_wide 10 Try.f10 rfl rfl rfl rfl rfl rfl rfl ⟨rfl, rfl, rfl, rfl, rfl⟩ rfl rfl rfl rfl rfl (by kernel_rfl) Try.func10 (by kernel_rfl)
    (of_decide_eq_true (by kernel_rfl)) (by unfold Func.isWrapper; first | (rw [if_pos (by decide +kernel)]; kernel_rfl) | (rw [if_neg (by decide +kernel)]; exact ⟨rfl, rfl⟩))
    (fun os started H enc _ => lifted os started H enc)
theorem proved : Rows.TurnerBeforeSaid := over
#print axioms proved
end Go.Proofs.Ytiiankjmeodjdaa.turnerBefore
namespace Go.Proofs.Ytiiankjmeodjdaa
/-- The row, under a short name, for the claim. -/
theorem turnerBefore_holds : Rows.TurnerBeforeSaid := turnerBefore.proved
end Go.Proofs.Ytiiankjmeodjdaa
