-- Written by ext.py, a program of this session.
import Derived.Test.YthgiiikjcfhgjaaRows
import Derived.Test.YthgiiikjcfhgjaaGV16
import Derived.Test.YthgiiikjcfhgjaaPureLeastApart
import Derived.WalkKit
import Derived.ProofKit
import Derived.OpenShut
import Derived.ShutString
import Derived.ChangeOld
import Derived.Below
import Derived.SizedLaws
import Derived.Test.YthgiiikjcfhgjaaOpn
namespace Go.Proofs.Ythgiiikjcfhgjaa.leastApart
open Go.ChangeShapes Go.WideShapes Go.ChangeAt Go.RowKit Go.Proofs.Ythgiiikjcfhgjaa.GV Go.Proofs.YthgiiikjcfhgjaaW.PrintWords
open Go.ChangeMaps (open_string shut_string)
set_option linter.unusedVariables false
theorem own : ownKnob Try.prog.godebug = none := by kernel_rfl
theorem laidOut : laidOutB Try.prog = true := by kernel_rfl
set_option maxRecDepth 100000 in
theorem lifted (os : Os) (started : os.Started) (H : Type) (enc : TypeId × Value → H) :
    ReturnsInHanded {} Try.checked os 11 .any (Rows.leastApartSpec.pre6 enc Try.prog Try.f11 Rows.leastApartRow.domain false) (Rows.leastApartSpec.post enc Try.prog Try.f11 false true false false) := by
  refine returnsInHanded_of_change_sized (C := Try.checked) own started (by kernel_rfl) Try.func11
    (ChangeSpec.witness6 (enc := enc) (C := Try.checked) false ⟨#[], #[.agg #[.int .i64 0, .int .i64 0, .slice none 0 0, .int .i64 0, .int .u32 0], .agg #[.int .i64 0, .int .i64 0, .slice none 0 0, .int .i64 0, .int .u32 0], .slice none 0 0], []⟩ 8 (by kernel_rfl) (by kernel_rfl) (by kernel_rfl) (by kernel_rfl)) ?_
  intro W base args ds gs before hval0 hW hcnd hsz0 _
  have hsz : (DataW.weightsEach Try.prog (Try.f11.params.toList ++ Rows.leastApartSpec.plain.varTypes Try.prog) (ds ++ gs)).all (· ≤ reachBytes) = true := hsz0
  have hval : ∀ (j : Nat) t v, Try.f11.params[j]? = some t → args[j]? = some v → Value.okWide Try.prog W .any base t v := hval0
  have hW' := hW
  obtain ⟨p, q, hA0, hV, rfl, hfz, hnd⟩ := hW
  have hA : DataW.TrodAll enc Try.prog W 0 (fun _ => true) true Try.f11.params.toList args.toList ds p := hA0
  rw [Try.params11] at hA hval hsz
  obtain ⟨v0, vs0, d0, ds0, p0, q0, hargs, rfl, rfl, h0, r0⟩ := trodAll_cons hA
  obtain ⟨v1, vs1, d1, ds1, p1, q1, rfl, rfl, rfl, h1, r1⟩ := trodAll_cons r0
  obtain ⟨v2, vs2, d2, ds2, p2, q2, rfl, rfl, rfl, h2, r2⟩ := trodAll_cons r1
  obtain ⟨rfl, rfl, rfl⟩ := trodAll_nil r2
  obtain rfl : args = #[v0, v1, v2] := by cases args; simp_all
  obtain ⟨rfl, rfl⟩ := trodVars_none hV
  have k0 := h0
  have lt0 : ∀ x ∈ p0, x.block < W.heap.size := by obtain ⟨m, hm⟩ := k0; exact DataW.trod_lt m _ _ _ hm
  obtain ⟨cs0, rfl, _⟩ := okWide_struct Try.underlying63 (hval 0 63 v0 rfl rfl)
  obtain ⟨fuel0, hf0⟩ := h0
  obtain ⟨y0, hy0, wf_0⟩ := opn63.op hf0 (opn_weights hsz (j := 0) (t := 63) rfl rfl)
  replace hy0 : k63.K W y0 cs0.toList := hy0
  obtain ⟨A0_2, c0_2, he0, hc0_2, hr0_2⟩ := k63_open hy0
  obtain rfl : cs0 = #[.int .i64 y0.f0, .int .i64 y0.f1, .slice A0_2 y0.f2.length c0_2, .int .i64 y0.f3, .int .u32 y0.f4] := by rw [← Array.toList_inj, he0]
  have k1 := h1
  have lt1 : ∀ x ∈ p1, x.block < W.heap.size := by obtain ⟨m, hm⟩ := k1; exact DataW.trod_lt m _ _ _ hm
  obtain ⟨cs1, rfl, _⟩ := okWide_struct Try.underlying63 (hval 1 63 v1 rfl rfl)
  obtain ⟨fuel1, hf1⟩ := h1
  obtain ⟨y1, hy1, wf_1⟩ := opn63.op hf1 (opn_weights hsz (j := 1) (t := 63) rfl rfl)
  replace hy1 : k63.K W y1 cs1.toList := hy1
  obtain ⟨A1_2, c1_2, he1, hc1_2, hr1_2⟩ := k63_open hy1
  obtain rfl : cs1 = #[.int .i64 y1.f0, .int .i64 y1.f1, .slice A1_2 y1.f2.length c1_2, .int .i64 y1.f3, .int .u32 y1.f4] := by rw [← Array.toList_inj, he1]
  have k2 := h2
  have lt2 : ∀ x ∈ p2, x.block < W.heap.size := by obtain ⟨m, hm⟩ := k2; exact DataW.trod_lt m _ _ _ hm
  obtain ⟨a2, len2, cap2, rfl⟩ := okWide_slice Try.underlying23 (hval 2 23 v2 rfl rfl)
  obtain ⟨fuel2, hf2⟩ := h2
  obtain ⟨A2, c2, l2, he2, hc2, hr2, w2⟩ := Opn.row (B := 8) (Opn.int Try.underlying3) Try.underlying23 (by kernel_rfl) (by kernel_rfl) hf2 (opn_weights hsz (j := 2) (t := 23) rfl rfl)
  simp only [Value.cells, List.cons.injEq, Value.slice.injEq, and_true] at he2
  obtain ⟨rfl, rfl, rfl⟩ := he2
  clear hA0 hval0 hsz0 hsz
  refine (GV.coppicerkeep_LeastApart.walk Pure.LeastApart y0.f0 y0.f1 _ y0.f2 _ y0.f3 y0.f4 y1.f0 y1.f1 _ y1.f2 _ y1.f3 y1.f4 _ l2 _ W wf_0.1 wf_0.2.1 hr0_2 hc0_2 wf_0.2.2.1 wf_0.2.2.2.1 wf_0.2.2.2.2 wf_1.1 wf_1.2.1 hr1_2 hc1_2 wf_1.2.2.1 wf_1.2.2.2.1 wf_1.2.2.2.2 hr2 hc2 w2).mono fun e W' ⟨he, bel⟩ => ?_
  subst he
  exact ⟨_, rfl, _, _, _, [], _, [], hW', trodAll_mk1 (shut_bool Try.underlying4 _), (trodAll_cons_mk (Below.trod laidOut (by kernel_rfl) (of_decide_eq_true (by kernel_rfl)) k0 bel lt0) (trodAll_cons_mk (Below.trod laidOut (by kernel_rfl) (of_decide_eq_true (by kernel_rfl)) k1 bel lt1) (trodAll_cons_mk (Below.trod laidOut (by kernel_rfl) (of_decide_eq_true (by kernel_rfl)) k2 bel lt2) trodAll_mk0))), rfl, bel.frame _, fun h => by cases h⟩
theorem over : Rows.leastApartRow.holds Try.pinned (OpenSpec.ofChange Rows.leastApartSpec) :=
  OpenClaim.holds_of_wide 11 Try.f11 rfl rfl rfl rfl rfl rfl rfl ⟨rfl, rfl, rfl, rfl, rfl⟩ rfl rfl rfl rfl rfl (by kernel_rfl) Try.func11 (by kernel_rfl)
    (of_decide_eq_true (by kernel_rfl)) (by unfold Func.isWrapper; first | (rw [if_pos (by decide +kernel)]; kernel_rfl) | (rw [if_neg (by decide +kernel)]; exact ⟨rfl, rfl⟩))
    (fun os started H enc _ => lifted os started H enc)
theorem proved : Rows.LeastApartSaid := over
#print axioms proved
end Go.Proofs.Ythgiiikjcfhgjaa.leastApart
namespace Go.Proofs.Ythgiiikjcfhgjaa
/-- The row, under a short name, for the claim. -/
theorem leastApart_holds : Rows.LeastApartSaid := leastApart.proved
end Go.Proofs.Ythgiiikjcfhgjaa
