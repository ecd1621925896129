-- Written by ext.py, a program of this session.
import Derived.Test.YthgiiikjcfhgjaaOpb
import Derived.Test.YthgiiikjcfhgjaaRows
import Derived.Test.YthgiiikjcfhgjaaGK10
import Derived.Test.YthgiiikjcfhgjaaPureStoreTold
import Derived.WalkKit
import Derived.ProofKit
import Derived.OpenShut
import Derived.ShutString
import Derived.ChangeOld
import Derived.Below
import Derived.SizedLaws
import Derived.Test.YthgiiikjcfhgjaaOpn
namespace Go.Proofs.Ythgiiikjcfhgjaa.storeTold
open Go.ChangeShapes Go.WideShapes Go.ChangeAt Go.RowKit Go.Proofs.Ythgiiikjcfhgjaa.GK Go.Proofs.YthgiiikjcfhgjaaW.PrintWords
open Go.ChangeMaps (open_string shut_string)
set_option linter.unusedVariables false
theorem own : ownKnob Try.prog.godebug = none := by kernel_rfl
theorem laidOut : laidOutB Try.prog = true := by kernel_rfl
set_option maxRecDepth 100000
theorem bkk117 : Opb.Bk Try.prog k117 117 (fun x => ((1 + (1 + (1 + ((x.f3.map fun x0_ => ((x0_.map fun x1_ => 1).sum + 1)).sum + 1)))) + 1)) := Opb.Bk.iso (fun x : S117 => (x.f0, x.f1, x.f2, x.f3)) (Opb.Bk.struct Try.underlying117 (by kernel_rfl) (Opb.BkF.cons Opb.Bk.one rfl (by kernel_rfl) (Opb.BkF.cons Opb.Bk.one rfl (by kernel_rfl) (Opb.BkF.cons Opb.Bk.one rfl (by kernel_rfl) (Opb.BkF.one (Opb.Bk.slice (Opb.Bk.slice Opb.Bk.one Try.underlying23 (by kernel_rfl)) Try.underlying60 (by kernel_rfl)) rfl (by kernel_rfl))))))
theorem bkk39 : Opb.Bk Try.prog k39 39 (fun x => ((((x.f0.map fun x0_ => ((1 + (1 + (1 + ((x0_.f3.map fun x1_ => ((x1_.map fun x2_ => 1).sum + 1)).sum + 1)))) + 1)).sum + 1) + 1) + 1)) := Opb.Bk.iso (fun x : S39 => (x.f0, x.f1)) (Opb.Bk.struct Try.underlying39 (by kernel_rfl) (Opb.BkF.cons (Opb.Bk.slice bkk117 Try.underlying37 (by kernel_rfl)) rfl (by kernel_rfl) (Opb.BkF.one Opb.Bk.one rfl (by kernel_rfl))))
theorem one_le {H : Type} (d : DataW H) : 1 ≤ Rows.uptoBulk d := by
  cases d with
  | lit l => cases l <;> simp [Rows.uptoBulk]
  | _ => simp [Rows.uptoBulk]
theorem len_le {H : Type} (l : List (DataW H)) : l.length ≤ Rows.uptoBulkAll l := by
  induction l with
  | nil => simp [Rows.uptoBulkAll]
  | cons x l ih => have := one_le x; simp only [Rows.uptoBulkAll, List.length_cons]; omega
theorem part_le {H : Type} {d : DataW H} : ∀ {l : List (DataW H)}, d ∈ l → Rows.uptoBulk d ≤ Rows.uptoBulkAll l
  | x :: r, h => by
    simp only [Rows.uptoBulkAll]
    rcases List.mem_cons.1 h with e | e
    · subst e; omega
    · have := part_le e; omega
theorem row_le {H : Type} {d : DataW H} {n : Nat} {l : List (DataW H)} (hk : Rows.uptoSmall H l = true) (hd : d ∈ l) (h : n = 0 ∨ ∃ es sp, d = .slice es sp ∧ es.length = n) : n ≤ 1048576 := by
  have h1 : Rows.uptoBulkAll l ≤ 1048576 := of_decide_eq_true hk
  have h2 := part_le hd
  rcases h with h | ⟨es, sp, rfl, rfl⟩
  · omega
  · have := len_le es
    simp only [Rows.uptoBulk] at h2
    omega
set_option maxRecDepth 100000 in
theorem lifted (os : Os) (started : os.Started) (H : Type) (enc : TypeId × Value → H) (F : Stop.Interp) :
    ReturnsInHanded {} Try.checked os 8 .any ((Rows.OpenSpec.upto Rows.storeToldSpec).pre6 enc Try.prog Try.f8 Rows.storeToldUptoRow.domain false) (((Rows.OpenSpec.upto Rows.storeToldSpec).at F).post enc Try.prog Try.f8 false true false false) := by
  refine returns_cond_sized (C := Try.checked) (s := Rows.OpenSpec.upto Rows.storeToldSpec) (k := Rows.uptoSmall) rfl own started (by kernel_rfl) Try.func8
    (OpenSpec.witness (enc := enc) (C := Try.checked) (s := Rows.OpenSpec.upto Rows.storeToldSpec) (k := Rows.uptoSmall) rfl false ⟨#[], #[.agg #[.slice none 0 0, .int .i64 0], .int .u16 0, .int .u8 0, .int .u8 0], []⟩ 8 (by kernel_rfl) (by kernel_rfl) (by kernel_rfl) (x := ([.agg [.nil, .lit (.int .i64 0)], .lit (.int .u16 0), .lit (.int .u8 0), .lit (.int .u8 0)], [], [])) (by kernel_rfl) rfl (by kernel_rfl)) ?_
  intro W base args ds gs before hval0 hW hkk hsz0
  have hsz : (DataW.weightsEach Try.prog (Try.f8.params.toList ++ Rows.storeToldSpec.plain.varTypes Try.prog) (ds ++ gs)).all (· ≤ reachBytes) = true := hsz0
  have hval : ∀ (j : Nat) t v, Try.f8.params[j]? = some t → args[j]? = some v → Value.okWide Try.prog W .any base t v := hval0
  have hW' := hW
  obtain ⟨p, q, hA0, hV, rfl, hfz, hnd⟩ := hW
  have hA : DataW.TrodAll enc Try.prog W 0 (fun _ => true) true Try.f8.params.toList args.toList ds p := hA0
  rw [Try.params8] at hA hval hsz
  obtain ⟨v0, vs0, d0, ds0, p0, q0, hargs, rfl, rfl, h0, r0⟩ := trodAll_cons hA
  obtain ⟨v1, vs1, d1, ds1, p1, q1, rfl, rfl, rfl, h1, r1⟩ := trodAll_cons r0
  obtain ⟨v2, vs2, d2, ds2, p2, q2, rfl, rfl, rfl, h2, r2⟩ := trodAll_cons r1
  obtain ⟨v3, vs3, d3, ds3, p3, q3, rfl, rfl, rfl, h3, r3⟩ := trodAll_cons r2
  obtain ⟨rfl, rfl, rfl⟩ := trodAll_nil r3
  obtain rfl : args = #[v0, v1, v2, v3] := by cases args; simp_all
  obtain ⟨rfl, rfl⟩ := trodVars_none hV
  have k0 := h0
  have lt0 : ∀ x ∈ p0, x.block < W.heap.size := by obtain ⟨m, hm⟩ := k0; exact DataW.trod_lt m _ _ _ hm
  obtain ⟨cs0, rfl, _⟩ := okWide_struct Try.underlying39 (hval 0 39 v0 rfl rfl)
  obtain ⟨fuel0, hf0⟩ := h0
  obtain ⟨y0, hy0, wf_0⟩ := opn39.op hf0 (opn_weights hsz (j := 0) (t := 39) rfl rfl)
  replace hy0 : k39.K W y0 cs0.toList := hy0
  have nb0 : ((((y0.f0.map fun x0_ => ((1 + (1 + (1 + ((x0_.f3.map fun x1_ => ((x1_.map fun x2_ => 1).sum + 1)).sum + 1)))) + 1)).sum + 1) + 1) + 1) ≤ 1048576 := Nat.le_trans (bkk39.op hf0 y0 hy0) (Nat.le_trans (Opb.part_le (by simp)) (of_decide_eq_true hkk))
  obtain ⟨A0_0, c0_0, he0, hc0_0, hr0_0⟩ := k39_open hy0
  obtain rfl : cs0 = #[.slice A0_0 y0.f0.length c0_0, .int .i64 y0.f1] := by rw [← Array.toList_inj, he0]
  obtain ⟨a1, rfl, rfl, rfl, w1⟩ := open_int Try.underlying47 (hval 1 47 v1 rfl rfl) h1
  obtain ⟨a2, rfl, rfl, rfl, w2⟩ := open_int Try.underlying5 (hval 2 5 v2 rfl rfl) h2
  obtain ⟨a3, rfl, rfl, rfl, w3⟩ := open_int Try.underlying5 (hval 3 5 v3 rfl rfl) h3
  clear hA0 hval0 hsz0 hsz
  refine (GK.coppicerkeep_StoreTold.walk Pure.StoreTold _ y0.f0 _ y0.f1 a1 a2 a3 W hr0_0 hc0_0 wf_0.1 (show ((y0.f0.map fun x0_ => ((1 + (1 + (1 + ((x0_.f3.map fun x1_ => ((x1_.map fun x2_ => 1).sum + 1)).sum + 1)))) + 1)).sum + 1) ≤ 1048576 by omega) wf_0.2 w1 w2 w3).mono fun e W' ⟨he, bel⟩ => ?_
  subst he
  exact ⟨_, rfl, _, _, _, [], _, [], hW', trodAll_mk1 (shut_bool Try.underlying4 _), (trodAll_cons_mk (Below.trod laidOut (by kernel_rfl) (of_decide_eq_true (by kernel_rfl)) k0 bel lt0) (trodAll_cons_mk (shut_int Try.underlying47 w1) (trodAll_cons_mk (shut_int Try.underlying5 w2) (trodAll_cons_mk (shut_int Try.underlying5 w3) trodAll_mk0)))), rfl, bel.frame _, fun h => by cases h⟩
theorem over : Rows.storeToldUptoRow.holds Try.pinned (Rows.OpenSpec.upto Rows.storeToldSpec) :=
  OpenClaim.holds_of_cond 8 Try.f8 rfl rfl rfl rfl rfl rfl rfl ⟨rfl, rfl, rfl, rfl, rfl⟩ rfl rfl rfl rfl rfl (by kernel_rfl) Try.func8 (by kernel_rfl)
    (of_decide_eq_true (by kernel_rfl)) (by unfold Func.isWrapper; first | (rw [if_pos (by decide +kernel)]; kernel_rfl) | (rw [if_neg (by decide +kernel)]; exact ⟨rfl, rfl⟩))
    (fun os started H enc _ F => lifted os started H enc F)
theorem proved : Rows.StoreToldUptoSaid := over
#print axioms proved
end Go.Proofs.Ythgiiikjcfhgjaa.storeTold
namespace Go.Proofs.Ythgiiikjcfhgjaa
/-- The row, under a short name, for the claim. -/
theorem storeToldUpto_holds : Rows.StoreToldUptoSaid := storeTold.proved
end Go.Proofs.Ythgiiikjcfhgjaa
