-- Written by ext.py, a program of this session.
import Derived.Test.YtlkeemcapemkiaaRows
import Derived.Test.YtlkeemcapemkiaaGA8
import Derived.Test.YtlkeemcapemkiaaPureTurnerThen
import Derived.WalkKit
import Derived.ProofKit
import Derived.OpenShut
import Derived.ShutString
import Derived.ChangeOld
import Derived.Below
import Derived.SizedLaws
import Derived.Test.YtlkeemcapemkiaaOpn
namespace Go.Proofs.Ytlkeemcapemkiaa.turnerThen
open Go.ChangeShapes Go.WideShapes Go.ChangeAt Go.RowKit Go.Proofs.Ytlkeemcapemkiaa.GA Go.Proofs.YtlkeemcapemkiaaW.PrintWords
open Go.ChangeMaps (open_string shut_string)
set_option linter.unusedVariables false
theorem own : ownKnob Try.prog.godebug = none := by kernel_rfl
theorem laidOut : laidOutB Try.prog = true := by kernel_rfl
set_option maxRecDepth 100000 in
theorem lifted (os : Os) (started : os.Started) (H : Type) (enc : TypeId × Value → H) :
    ReturnsInHanded {} Try.checked os 3 .any (Rows.turnerThenSpec.pre6 enc Try.prog Try.f3 Rows.turnerThenRow.domain false) (Rows.turnerThenSpec.post enc Try.prog Try.f3 false true false false) := by
  refine returnsInHanded_of_change_sized (C := Try.checked) own started (by kernel_rfl) Try.func3
    (ChangeSpec.witness6 (enc := enc) (C := Try.checked) false ⟨#[], #[.agg #[.int .i64 0, .int .i64 0, .int .i64 0, .slice none 0 0, .slice none 0 0, .int .i64 0], .agg #[.int .i64 0, .int .i64 0, .int .i64 0, .slice none 0 0, .slice none 0 0, .int .i64 0], .slice none 0 0], []⟩ 8 (by kernel_rfl) (by kernel_rfl) (by kernel_rfl) (by kernel_rfl)) ?_
  intro W base args ds gs before hval0 hW hcnd hsz0 _
  have hsz : (DataW.weightsEach Try.prog (Try.f3.params.toList ++ Rows.turnerThenSpec.plain.varTypes Try.prog) (ds ++ gs)).all (· ≤ reachBytes) = true := hsz0
  have hval : ∀ (j : Nat) t v, Try.f3.params[j]? = some t → args[j]? = some v → Value.okWide Try.prog W .any base t v := hval0
  have hW' := hW
  obtain ⟨p, q, hA0, hV, rfl, hfz, hnd⟩ := hW
  have hA : DataW.TrodAll enc Try.prog W 0 (fun _ => true) true Try.f3.params.toList args.toList ds p := hA0
  rw [Try.params3] at hA hval hsz
  obtain ⟨v0, vs0, d0, ds0, p0, q0, hargs, rfl, rfl, h0, r0⟩ := trodAll_cons hA
  obtain ⟨v1, vs1, d1, ds1, p1, q1, rfl, rfl, rfl, h1, r1⟩ := trodAll_cons r0
  obtain ⟨v2, vs2, d2, ds2, p2, q2, rfl, rfl, rfl, h2, r2⟩ := trodAll_cons r1
  obtain ⟨rfl, rfl, rfl⟩ := trodAll_nil r2
  obtain rfl : args = #[v0, v1, v2] := by cases args; simp_all
  obtain ⟨rfl, rfl⟩ := trodVars_none hV
  have k0 := h0
  have lt0 : ∀ x ∈ p0, x.block < W.heap.size := by obtain ⟨m, hm⟩ := k0; exact DataW.trod_lt m _ _ _ hm
  obtain ⟨cs0, rfl, _⟩ := okWide_struct Try.underlying25 (hval 0 25 v0 rfl rfl)
  obtain ⟨fuel0, hf0⟩ := h0
  obtain ⟨y0, hy0, wf_0⟩ := opn25.op hf0 (opn_weights hsz (j := 0) (t := 25) rfl rfl)
  replace hy0 : k25.K W y0 cs0.toList := hy0
  obtain ⟨A0_3, c0_3, A0_4, c0_4, he0, hc0_3, hr0_3, hc0_4, hr0_4⟩ := k25_open hy0
  obtain rfl : cs0 = #[.int .i64 y0.f0, .int .i64 y0.f1, .int .i64 y0.f2, .slice A0_3 y0.f3.length c0_3, .slice A0_4 y0.f4.length c0_4, .int .i64 y0.f5] := by rw [← Array.toList_inj, he0]
  have k1 := h1
  have lt1 : ∀ x ∈ p1, x.block < W.heap.size := by obtain ⟨m, hm⟩ := k1; exact DataW.trod_lt m _ _ _ hm
  obtain ⟨cs1, rfl, _⟩ := okWide_struct Try.underlying25 (hval 1 25 v1 rfl rfl)
  obtain ⟨fuel1, hf1⟩ := h1
  obtain ⟨y1, hy1, wf_1⟩ := opn25.op hf1 (opn_weights hsz (j := 1) (t := 25) rfl rfl)
  replace hy1 : k25.K W y1 cs1.toList := hy1
  obtain ⟨A1_3, c1_3, A1_4, c1_4, he1, hc1_3, hr1_3, hc1_4, hr1_4⟩ := k25_open hy1
  obtain rfl : cs1 = #[.int .i64 y1.f0, .int .i64 y1.f1, .int .i64 y1.f2, .slice A1_3 y1.f3.length c1_3, .slice A1_4 y1.f4.length c1_4, .int .i64 y1.f5] := by rw [← Array.toList_inj, he1]
  have k2 := h2
  have lt2 : ∀ x ∈ p2, x.block < W.heap.size := by obtain ⟨m, hm⟩ := k2; exact DataW.trod_lt m _ _ _ hm
  obtain ⟨a2, len2, cap2, rfl⟩ := okWide_slice Try.underlying26 (hval 2 26 v2 rfl rfl)
  obtain ⟨fuel2, hf2⟩ := h2
  obtain ⟨A2, c2, l2, he2, hc2, hr2, w2⟩ := Opn.row (B := 8) (Opn.int Try.underlying3) Try.underlying26 (by kernel_rfl) (by kernel_rfl) hf2 (opn_weights hsz (j := 2) (t := 26) rfl rfl)
  simp only [Value.cells, List.cons.injEq, Value.slice.injEq, and_true] at he2
  obtain ⟨rfl, rfl, rfl⟩ := he2
  clear hA0 hval0 hsz0 hsz
  refine (GA.coppicerkeep_TurnerThen.walk Pure.TurnerThen y0.f0 y0.f1 y0.f2 _ y0.f3 _ _ y0.f4 _ y0.f5 y1.f0 y1.f1 y1.f2 _ y1.f3 _ _ y1.f4 _ y1.f5 _ l2 _ W wf_0.1 wf_0.2.1 wf_0.2.2.1 hr0_3 hc0_3 wf_0.2.2.2.1 hr0_4 hc0_4 wf_0.2.2.2.2.1 wf_0.2.2.2.2.2 wf_1.1 wf_1.2.1 wf_1.2.2.1 hr1_3 hc1_3 wf_1.2.2.2.1 hr1_4 hc1_4 wf_1.2.2.2.2.1 wf_1.2.2.2.2.2 hr2 hc2 w2).mono fun e W' ⟨he, bel⟩ => ?_
  subst he
  exact ⟨_, rfl, _, _, _, [], _, [], hW', trodAll_mk1 (shut_bool Try.underlying4 _), (trodAll_cons_mk (Below.trod laidOut (by kernel_rfl) (of_decide_eq_true (by kernel_rfl)) k0 bel lt0) (trodAll_cons_mk (Below.trod laidOut (by kernel_rfl) (of_decide_eq_true (by kernel_rfl)) k1 bel lt1) (trodAll_cons_mk (Below.trod laidOut (by kernel_rfl) (of_decide_eq_true (by kernel_rfl)) k2 bel lt2) trodAll_mk0))), rfl, bel.frame _, fun h => by cases h⟩
theorem over : Rows.turnerThenRow.holds Try.pinned (OpenSpec.ofChange Rows.turnerThenSpec) :=
  OpenClaim.holds_of_wide 3 Try.f3 rfl rfl rfl rfl rfl rfl rfl ⟨rfl, rfl, rfl, rfl, rfl⟩ rfl rfl rfl rfl rfl (by kernel_rfl) Try.func3 (by kernel_rfl)
    (of_decide_eq_true (by kernel_rfl)) (by unfold Func.isWrapper; first | (rw [if_pos (by decide +kernel)]; kernel_rfl) | (rw [if_neg (by decide +kernel)]; exact ⟨rfl, rfl⟩))
    (fun os started H enc _ => lifted os started H enc)
theorem proved : Rows.TurnerThenSaid := over
#print axioms proved
end Go.Proofs.Ytlkeemcapemkiaa.turnerThen
namespace Go.Proofs.Ytlkeemcapemkiaa
/-- The row, under a short name, for the claim. -/
theorem turnerThen_holds : Rows.TurnerThenSaid := turnerThen.proved
end Go.Proofs.Ytlkeemcapemkiaa
