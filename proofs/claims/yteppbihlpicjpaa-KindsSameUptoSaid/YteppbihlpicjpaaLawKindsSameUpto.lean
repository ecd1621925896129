-- Written by ext.py, a program of this session.
import Derived.Test.YteppbihlpicjpaaRows
import Derived.Test.YteppbihlpicjpaaGK16
import Derived.Test.YteppbihlpicjpaaPureKindsSame
import Derived.WalkKit
import Derived.ProofKit
import Derived.OpenShut
import Derived.ShutString
import Derived.ChangeOld
import Derived.Below
import Derived.SizedLaws
import Derived.Test.YteppbihlpicjpaaOpn
namespace Go.Proofs.Yteppbihlpicjpaa.kindsSame
open Go.ChangeShapes Go.WideShapes Go.ChangeAt Go.RowKit Go.Proofs.Yteppbihlpicjpaa.GK Go.Proofs.YteppbihlpicjpaaW.PrintWords
open Go.ChangeMaps (open_string shut_string)
set_option linter.unusedVariables false
theorem own : ownKnob Try.prog.godebug = none := by kernel_rfl
theorem laidOut : laidOutB Try.prog = true := by kernel_rfl
theorem one_le {H : Type} (d : DataW H) : 1 ≤ Rows.uptoBulk d := by
  cases d with
  | lit l => cases l <;> simp [Rows.uptoBulk]
  | _ => simp [Rows.uptoBulk]
theorem len_le {H : Type} (l : List (DataW H)) : l.length ≤ Rows.uptoBulkAll l := by
  induction l with
  | nil => simp [Rows.uptoBulkAll]
  | cons x l ih => have := one_le x; simp only [Rows.uptoBulkAll, List.length_cons]; omega
theorem part_le {H : Type} {d : DataW H} : ∀ {l : List (DataW H)}, d ∈ l → Rows.uptoBulk d ≤ Rows.uptoBulkAll l
  | x :: r, h => by
    simp only [Rows.uptoBulkAll]
    rcases List.mem_cons.1 h with e | e
    · subst e; omega
    · have := part_le e; omega
theorem row_le {H : Type} {d : DataW H} {n : Nat} {l : List (DataW H)} (hk : Rows.uptoSmall H l = true) (hd : d ∈ l) (h : n = 0 ∨ ∃ es sp, d = .slice es sp ∧ es.length = n) : n ≤ 1048576 := by
  have h1 : Rows.uptoBulkAll l ≤ 1048576 := of_decide_eq_true hk
  have h2 := part_le hd
  rcases h with h | ⟨es, sp, rfl, rfl⟩
  · omega
  · have := len_le es
    simp only [Rows.uptoBulk] at h2
    omega
set_option maxRecDepth 100000 in
theorem lifted (os : Os) (started : os.Started) (H : Type) (enc : TypeId × Value → H) (F : Stop.Interp) :
    ReturnsInHanded {} Try.checked os 3 .any ((Rows.OpenSpec.upto Rows.kindsSameSpec).pre6 enc Try.prog Try.f3 Rows.kindsSameUptoRow.domain false) (((Rows.OpenSpec.upto Rows.kindsSameSpec).at F).post enc Try.prog Try.f3 false true false false) := by
  refine returns_cond_sized (C := Try.checked) (s := Rows.OpenSpec.upto Rows.kindsSameSpec) (k := Rows.uptoSmall) rfl own started (by kernel_rfl) Try.func3
    (OpenSpec.witness (enc := enc) (C := Try.checked) (s := Rows.OpenSpec.upto Rows.kindsSameSpec) (k := Rows.uptoSmall) rfl false ⟨#[], #[.agg #[.int .i64 0, .int .i64 0, .slice none 0 0, .int .i64 0, .int .u32 0], .slice none 0 0, .slice none 0 0, .slice none 0 0, .slice none 0 0], []⟩ 8 (by kernel_rfl) (by kernel_rfl) (by kernel_rfl) (x := ([.agg [.lit (.int .i64 0), .lit (.int .i64 0), .nil, .lit (.int .i64 0), .lit (.int .u32 0)], .nil, .nil, .nil, .nil], [], [])) (by kernel_rfl) rfl (by kernel_rfl)) ?_
  intro W base args ds gs before hval0 hW hkk hsz0
  have hsz : (DataW.weightsEach Try.prog (Try.f3.params.toList ++ Rows.kindsSameSpec.plain.varTypes Try.prog) (ds ++ gs)).all (· ≤ reachBytes) = true := hsz0
  have hval : ∀ (j : Nat) t v, Try.f3.params[j]? = some t → args[j]? = some v → Value.okWide Try.prog W .any base t v := hval0
  have hW' := hW
  obtain ⟨p, q, hA0, hV, rfl, hfz, hnd⟩ := hW
  have hA : DataW.TrodAll enc Try.prog W 0 (fun _ => true) true Try.f3.params.toList args.toList ds p := hA0
  rw [Try.params3] at hA hval hsz
  obtain ⟨v0, vs0, d0, ds0, p0, q0, hargs, rfl, rfl, h0, r0⟩ := trodAll_cons hA
  obtain ⟨v1, vs1, d1, ds1, p1, q1, rfl, rfl, rfl, h1, r1⟩ := trodAll_cons r0
  obtain ⟨v2, vs2, d2, ds2, p2, q2, rfl, rfl, rfl, h2, r2⟩ := trodAll_cons r1
  obtain ⟨v3, vs3, d3, ds3, p3, q3, rfl, rfl, rfl, h3, r3⟩ := trodAll_cons r2
  obtain ⟨v4, vs4, d4, ds4, p4, q4, rfl, rfl, rfl, h4, r4⟩ := trodAll_cons r3
  obtain ⟨rfl, rfl, rfl⟩ := trodAll_nil r4
  obtain rfl : args = #[v0, v1, v2, v3, v4] := by cases args; simp_all
  obtain ⟨rfl, rfl⟩ := trodVars_none hV
  have k0 := h0
  have lt0 : ∀ x ∈ p0, x.block < W.heap.size := by obtain ⟨m, hm⟩ := k0; exact DataW.trod_lt m _ _ _ hm
  obtain ⟨cs0, rfl, _⟩ := okWide_struct Try.underlying25 (hval 0 25 v0 rfl rfl)
  obtain ⟨fuel0, hf0⟩ := h0
  obtain ⟨y0, hy0, wf_0⟩ := opn25.op hf0 (opn_weights hsz (j := 0) (t := 25) rfl rfl)
  replace hy0 : k25.K W y0 cs0.toList := hy0
  obtain ⟨A0_2, c0_2, he0, hc0_2, hr0_2⟩ := k25_open hy0
  obtain rfl : cs0 = #[.int .i64 y0.f0, .int .i64 y0.f1, .slice A0_2 y0.f2.length c0_2, .int .i64 y0.f3, .int .u32 y0.f4] := by rw [← Array.toList_inj, he0]
  have k1 := h1
  have lt1 : ∀ x ∈ p1, x.block < W.heap.size := by obtain ⟨m, hm⟩ := k1; exact DataW.trod_lt m _ _ _ hm
  obtain ⟨a1, len1, cap1, rfl⟩ := okWide_slice Try.underlying26 (hval 1 26 v1 rfl rfl)
  obtain ⟨fuel1, hf1⟩ := h1
  obtain ⟨A1, c1, l1, he1, hc1, hr1, w1⟩ := Opn.row (B := 8) (Opn.int Try.underlying3) Try.underlying26 (by kernel_rfl) (by kernel_rfl) hf1 (opn_weights hsz (j := 1) (t := 26) rfl rfl)
  simp only [Value.cells, List.cons.injEq, Value.slice.injEq, and_true] at he1
  obtain ⟨rfl, rfl, rfl⟩ := he1
  have k2 := h2
  have lt2 : ∀ x ∈ p2, x.block < W.heap.size := by obtain ⟨m, hm⟩ := k2; exact DataW.trod_lt m _ _ _ hm
  obtain ⟨a2, len2, cap2, rfl⟩ := okWide_slice Try.underlying26 (hval 2 26 v2 rfl rfl)
  obtain ⟨fuel2, hf2⟩ := h2
  obtain ⟨A2, c2, l2, he2, hc2, hr2, w2⟩ := Opn.row (B := 8) (Opn.int Try.underlying3) Try.underlying26 (by kernel_rfl) (by kernel_rfl) hf2 (opn_weights hsz (j := 2) (t := 26) rfl rfl)
  simp only [Value.cells, List.cons.injEq, Value.slice.injEq, and_true] at he2
  obtain ⟨rfl, rfl, rfl⟩ := he2
  have k3 := h3
  have lt3 : ∀ x ∈ p3, x.block < W.heap.size := by obtain ⟨m, hm⟩ := k3; exact DataW.trod_lt m _ _ _ hm
  obtain ⟨a3, len3, cap3, rfl⟩ := okWide_slice Try.underlying26 (hval 3 26 v3 rfl rfl)
  obtain ⟨fuel3, hf3⟩ := h3
  obtain ⟨A3, c3, l3, he3, hc3, hr3, w3⟩ := Opn.row (B := 8) (Opn.int Try.underlying3) Try.underlying26 (by kernel_rfl) (by kernel_rfl) hf3 (opn_weights hsz (j := 3) (t := 26) rfl rfl)
  simp only [Value.cells, List.cons.injEq, Value.slice.injEq, and_true] at he3
  obtain ⟨rfl, rfl, rfl⟩ := he3
  have k4 := h4
  have lt4 : ∀ x ∈ p4, x.block < W.heap.size := by obtain ⟨m, hm⟩ := k4; exact DataW.trod_lt m _ _ _ hm
  obtain ⟨a4, len4, cap4, rfl⟩ := okWide_slice Try.underlying26 (hval 4 26 v4 rfl rfl)
  obtain ⟨fuel4, hf4⟩ := h4
  obtain ⟨A4, c4, l4, he4, hc4, hr4, w4⟩ := Opn.row (B := 8) (Opn.int Try.underlying3) Try.underlying26 (by kernel_rfl) (by kernel_rfl) hf4 (opn_weights hsz (j := 4) (t := 26) rfl rfl)
  simp only [Value.cells, List.cons.injEq, Value.slice.injEq, and_true] at he4
  obtain ⟨rfl, rfl, rfl⟩ := he4
  clear hA0 hval0 hsz0 hsz
  refine (GK.coppicerkeep_KindsSame.walk Pure.KindsSame y0.f0 y0.f1 _ y0.f2 _ y0.f3 y0.f4 _ l1 _ _ l2 _ _ l3 _ _ l4 _ W wf_0.1 wf_0.2.1 hr0_2 hc0_2 wf_0.2.2.1 wf_0.2.2.2.1 wf_0.2.2.2.2 hr1 hc1 w1 (row_le hkk (by simp) (Opn.row_len Try.underlying26 hf1)) hr2 hc2 w2 (row_le hkk (by simp) (Opn.row_len Try.underlying26 hf2)) hr3 hc3 w3 (row_le hkk (by simp) (Opn.row_len Try.underlying26 hf3)) hr4 hc4 w4 (row_le hkk (by simp) (Opn.row_len Try.underlying26 hf4))).mono fun e W' ⟨he, bel⟩ => ?_
  subst he
  exact ⟨_, rfl, _, _, _, [], _, [], hW', trodAll_mk1 (shut_bool Try.underlying4 _), (trodAll_cons_mk (Below.trod laidOut (by kernel_rfl) (of_decide_eq_true (by kernel_rfl)) k0 bel lt0) (trodAll_cons_mk (Below.trod laidOut (by kernel_rfl) (of_decide_eq_true (by kernel_rfl)) k1 bel lt1) (trodAll_cons_mk (Below.trod laidOut (by kernel_rfl) (of_decide_eq_true (by kernel_rfl)) k2 bel lt2) (trodAll_cons_mk (Below.trod laidOut (by kernel_rfl) (of_decide_eq_true (by kernel_rfl)) k3 bel lt3) (trodAll_cons_mk (Below.trod laidOut (by kernel_rfl) (of_decide_eq_true (by kernel_rfl)) k4 bel lt4) trodAll_mk0))))), rfl, bel.frame _, fun h => by cases h⟩
theorem over : Rows.kindsSameUptoRow.holds Try.pinned (Rows.OpenSpec.upto Rows.kindsSameSpec) :=
  OpenClaim.holds_of_cond 3 Try.f3 rfl rfl rfl rfl rfl rfl rfl ⟨rfl, rfl, rfl, rfl, rfl⟩ rfl rfl rfl rfl rfl (by kernel_rfl) Try.func3 (by kernel_rfl)
    (of_decide_eq_true (by kernel_rfl)) (by unfold Func.isWrapper; first | (rw [if_pos (by decide +kernel)]; kernel_rfl) | (rw [if_neg (by decide +kernel)]; exact ⟨rfl, rfl⟩))
    (fun os started H enc _ F => lifted os started H enc F)
theorem proved : Rows.KindsSameUptoSaid := over
#print axioms proved
end Go.Proofs.Yteppbihlpicjpaa.kindsSame
namespace Go.Proofs.Yteppbihlpicjpaa
/-- The row, under a short name, for the claim. -/
theorem kindsSameUpto_holds : Rows.KindsSameUptoSaid := kindsSame.proved
end Go.Proofs.Yteppbihlpicjpaa
