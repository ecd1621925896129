-- Written by ext.py, a program of this session.
import Derived.Test.YtkalcljgcigdgaaGE0
import Derived.Test.YtkalcljgcigdgaaGE1
import Derived.Test.YtkalcljgcigdgaaGE4
import Derived.Test.YtkalcljgcigdgaaGE6
namespace Go.Proofs.Ytkalcljgcigdgaa.GE
open Go.RowKit Go.Proofs.YtkalcljgcigdgaaW.PrintWords Go.Proofs.YtkalcljgcigdgaaW.PrintLast Go.Proofs.YtkalcljgcigdgaaW.PrintMore
attribute [local go_sem] max2_int min2_int max_two min_two max_three min_three max_four min_four cellIs_set   -- for this text's walks alone
set_option linter.unusedVariables false
set_option linter.unusedSimpArgs false

/-! ### coppicerkeep_EndsFew: function 6 -/
def coppicerkeep_EndsFew.j0 : Nat → Bool → Option (Bool)
  | 0, _ => none
  | k + 1, x6 => some x6
def coppicerkeep_EndsFew.f (k : Nat) (l0 : List Int) (l1 : List Int) (a2 : Int) : Option (Bool) := (ends_Count.f k l0 l1).bind fun bt127 => ((border_Find.f k l1 l0).bind fun bt129 => ((coppicerkeep_long.f k (([l0, l1] : List (List Int)))).bind fun t136 => (if t136 = true then (if bt127.2 = 0 then (some false) else (some (bt129.2 != 0))) else (if (wrap64 ((l1.length : Int) + 1)) = 0 then (none) else (if 0 ≤ (Int.tmod (wrap64 (a2)) (wrap64 ((l1.length : Int) + 1))) then (if (Int.tmod (wrap64 (a2)) (wrap64 ((l1.length : Int) + 1))) ≤ (l1.length : Int) then ((ends_Count.f k l0 (l1.take ((Int.tmod (wrap64 (a2)) (wrap64 ((l1.length : Int) + 1))) : Int).toNat)).bind fun bt142 => ((ends_Count.f k l0 ([] : List Int)).bind fun bt144 => (if bt127.2 = 0 then (if bt129.2 = 0 then (if bt142.2 = 0 then (if bt144.2 = 0 then (if bt127.1 = (bt129.1.length : Int) then (if bt142.1 ≥ bt127.1 then (coppicerkeep_EndsFew.j0 k (bt144.1 == (wrap64 ((l0.length : Int) + 1)))) else (coppicerkeep_EndsFew.j0 k false)) else (coppicerkeep_EndsFew.j0 k false)) else (coppicerkeep_EndsFew.j0 k false)) else (coppicerkeep_EndsFew.j0 k false)) else (coppicerkeep_EndsFew.j0 k false)) else (coppicerkeep_EndsFew.j0 k false)))) else (none)) else (none))))))
theorem coppicerkeep_EndsFew.mono_l : ∀ k, (∀ y0, LeO (coppicerkeep_EndsFew.j0 k y0) (coppicerkeep_EndsFew.j0 (k + 1) y0))
  | 0 => fun _ r h => by simp [coppicerkeep_EndsFew.j0] at h
  | k + 1 => by
    have ih0 := coppicerkeep_EndsFew.mono_l k
    · intro y0
      unfold coppicerkeep_EndsFew.j0
      repeat' first
      | (with_reducible exact ih0 _)
      | (with_reducible exact border_Find.mono _ _ _)
      | (with_reducible exact coppicerkeep_long.mono _ _)
      | (with_reducible exact ends_Count.mono _ _ _)
      | (with_reducible exact LeO.refl _)
      | (with_reducible exact LeO.none _)
      | (with_reducible refine LeO.ite ?_ ?_)
      | (with_reducible refine LeO.bind ?_ (fun _ => ?_))
      | exact ih0 _
      | exact border_Find.mono _ _ _
      | exact coppicerkeep_long.mono _ _
      | exact ends_Count.mono _ _ _
      | exact LeO.none _
      | refine LeO.ite ?_ ?_
      | refine LeO.bind ?_ (fun _ => ?_)
theorem coppicerkeep_EndsFew.mono : ∀ a0 a1 a2 k, LeO (coppicerkeep_EndsFew.f k a0 a1 a2) (coppicerkeep_EndsFew.f (k + 1) a0 a1 a2) := by
  intro a0 a1 a2 k
  have ih0 := coppicerkeep_EndsFew.mono_l k
  unfold coppicerkeep_EndsFew.f
  repeat' first
      | (with_reducible exact ih0 _)
      | (with_reducible exact border_Find.mono _ _ _)
      | (with_reducible exact coppicerkeep_long.mono _ _)
      | (with_reducible exact ends_Count.mono _ _ _)
      | (with_reducible exact LeO.refl _)
      | (with_reducible exact LeO.none _)
      | (with_reducible refine LeO.ite ?_ ?_)
      | (with_reducible refine LeO.bind ?_ (fun _ => ?_))
      | exact ih0 _
      | exact border_Find.mono _ _ _
      | exact coppicerkeep_long.mono _ _
      | exact ends_Count.mono _ _ _
      | exact LeO.none _
      | refine LeO.ite ?_ ?_
      | refine LeO.bind ?_ (fun _ => ?_)
set_option maxHeartbeats 8000000 in
set_option maxRecDepth 100000 in
theorem coppicerkeep_EndsFew.calls (k : Nat) (P0_ : Nat → Prop) (A0 : Option Addr) (c0 : Nat) (l0 : List Int) (P1_ : Nat → Prop) (A1 : Option Addr) (c1 : Nat) (l1 : List Int) (a2 : Int) (r : Bool) (w : World) (hs0 : Kd.V (Kd.int .u8) 5 w w.heap.size (fun k_ => P0_ k_) (.slice A0 l0.length c0) l0) (hs1 : Kd.V (Kd.int .u8) 5 w w.heap.size (fun k_ => P1_ k_) (.slice A1 l1.length c1) l1) (h : coppicerkeep_EndsFew.f k l0 l1 a2 = some r) :
    Calls Try.prog 6 #[.slice A0 l0.length c0, .slice A1 l1.length c1, .int .u8 a2] w fun e w' => e = .returned (.bool r) ∧ Below w.heap.size w w' := by
  have HO0 := Aside0.mk (show Kd.V (Kd.int .u8) 5 w w.heap.size (fun k_ => ((P0_ k_ ∨ P1_ k_) ∨ w.heap.size ≤ k_)) (.slice A0 l0.length c0) l0 from Kd.V_mono hs0 (fun k_ hk => .inl (.inl hk)))
  have HO1 := Aside0.mk (show Kd.V (Kd.int .u8) 5 w w.heap.size (fun k_ => ((P0_ k_ ∨ P1_ k_) ∨ w.heap.size ≤ k_)) (.slice A1 l1.length c1) l1 from Kd.V_mono hs1 (fun k_ hk => .inl (.inr hk)))
  have HB := Aside0.mk (Below.refl w.heap.size w)
  have H : ((ends_Count.f k l0 l1).bind fun bt127 => ((border_Find.f k l1 l0).bind fun bt129 => ((coppicerkeep_long.f k (([l0, l1] : List (List Int)))).bind fun t136 => (if t136 = true then (if bt127.2 = 0 then (some false) else (some (bt129.2 != 0))) else (if (wrap64 ((l1.length : Int) + 1)) = 0 then (none) else (if 0 ≤ (Int.tmod (wrap64 (a2)) (wrap64 ((l1.length : Int) + 1))) then (if (Int.tmod (wrap64 (a2)) (wrap64 ((l1.length : Int) + 1))) ≤ (l1.length : Int) then ((ends_Count.f k l0 (l1.take ((Int.tmod (wrap64 (a2)) (wrap64 ((l1.length : Int) + 1))) : Int).toNat)).bind fun bt142 => ((ends_Count.f k l0 ([] : List Int)).bind fun bt144 => (if bt127.2 = 0 then (if bt129.2 = 0 then (if bt142.2 = 0 then (if bt144.2 = 0 then (if bt127.1 = (bt129.1.length : Int) then (if bt142.1 ≥ bt127.1 then (coppicerkeep_EndsFew.j0 k (bt144.1 == (wrap64 ((l0.length : Int) + 1)))) else (coppicerkeep_EndsFew.j0 k false)) else (coppicerkeep_EndsFew.j0 k false)) else (coppicerkeep_EndsFew.j0 k false)) else (coppicerkeep_EndsFew.j0 k false)) else (coppicerkeep_EndsFew.j0 k false)) else (coppicerkeep_EndsFew.j0 k false)))) else (none)) else (none))))))) = some r := h
  clear h
  replace H := Option.bind_eq_some_iff.mp H
  obtain ⟨⟨t127, t128⟩, A40, H⟩ := H
  replace H : ((border_Find.f k l1 l0).bind fun bt129 => ((coppicerkeep_long.f k (([l0, l1] : List (List Int)))).bind fun t136 => (if t136 = true then (if t128 = 0 then (some false) else (some (bt129.2 != 0))) else (if (wrap64 ((l1.length : Int) + 1)) = 0 then (none) else (if 0 ≤ (Int.tmod (wrap64 (a2)) (wrap64 ((l1.length : Int) + 1))) then (if (Int.tmod (wrap64 (a2)) (wrap64 ((l1.length : Int) + 1))) ≤ (l1.length : Int) then ((ends_Count.f k l0 (l1.take ((Int.tmod (wrap64 (a2)) (wrap64 ((l1.length : Int) + 1))) : Int).toNat)).bind fun bt142 => ((ends_Count.f k l0 ([] : List Int)).bind fun bt144 => (if t128 = 0 then (if bt129.2 = 0 then (if bt142.2 = 0 then (if bt144.2 = 0 then (if t127 = (bt129.1.length : Int) then (if bt142.1 ≥ t127 then (coppicerkeep_EndsFew.j0 k (bt144.1 == (wrap64 ((l0.length : Int) + 1)))) else (coppicerkeep_EndsFew.j0 k false)) else (coppicerkeep_EndsFew.j0 k false)) else (coppicerkeep_EndsFew.j0 k false)) else (coppicerkeep_EndsFew.j0 k false)) else (coppicerkeep_EndsFew.j0 k false)) else (coppicerkeep_EndsFew.j0 k false)))) else (none)) else (none)))))) = some r := H
  have A4 := Aside0.mk A40
  clear A40
  replace H := Option.bind_eq_some_iff.mp H
  obtain ⟨⟨t129, t130⟩, A50, H⟩ := H
  replace H : ((coppicerkeep_long.f k (([l0, l1] : List (List Int)))).bind fun t136 => (if t136 = true then (if t128 = 0 then (some false) else (some (t130 != 0))) else (if (wrap64 ((l1.length : Int) + 1)) = 0 then (none) else (if 0 ≤ (Int.tmod (wrap64 (a2)) (wrap64 ((l1.length : Int) + 1))) then (if (Int.tmod (wrap64 (a2)) (wrap64 ((l1.length : Int) + 1))) ≤ (l1.length : Int) then ((ends_Count.f k l0 (l1.take ((Int.tmod (wrap64 (a2)) (wrap64 ((l1.length : Int) + 1))) : Int).toNat)).bind fun bt142 => ((ends_Count.f k l0 ([] : List Int)).bind fun bt144 => (if t128 = 0 then (if t130 = 0 then (if bt142.2 = 0 then (if bt144.2 = 0 then (if t127 = (t129.length : Int) then (if bt142.1 ≥ t127 then (coppicerkeep_EndsFew.j0 k (bt144.1 == (wrap64 ((l0.length : Int) + 1)))) else (coppicerkeep_EndsFew.j0 k false)) else (coppicerkeep_EndsFew.j0 k false)) else (coppicerkeep_EndsFew.j0 k false)) else (coppicerkeep_EndsFew.j0 k false)) else (coppicerkeep_EndsFew.j0 k false)) else (coppicerkeep_EndsFew.j0 k false)))) else (none)) else (none))))) = some r := H
  have A5 := Aside0.mk A50
  clear A50
  obtain ⟨y133, hy133⟩ : ∃ y_ : List (List Int), y_ = (([l0, l1] : List (List Int))) := ⟨_, rfl⟩
  replace H : ((coppicerkeep_long.f k y133).bind fun t136 => (if t136 = true then (if t128 = 0 then (some false) else (some (t130 != 0))) else (if (wrap64 ((l1.length : Int) + 1)) = 0 then (none) else (if 0 ≤ (Int.tmod (wrap64 (a2)) (wrap64 ((l1.length : Int) + 1))) then (if (Int.tmod (wrap64 (a2)) (wrap64 ((l1.length : Int) + 1))) ≤ (l1.length : Int) then ((ends_Count.f k l0 (l1.take ((Int.tmod (wrap64 (a2)) (wrap64 ((l1.length : Int) + 1))) : Int).toNat)).bind fun bt142 => ((ends_Count.f k l0 ([] : List Int)).bind fun bt144 => (if t128 = 0 then (if t130 = 0 then (if bt142.2 = 0 then (if bt144.2 = 0 then (if t127 = (t129.length : Int) then (if bt142.1 ≥ t127 then (coppicerkeep_EndsFew.j0 k (bt144.1 == (wrap64 ((l0.length : Int) + 1)))) else (coppicerkeep_EndsFew.j0 k false)) else (coppicerkeep_EndsFew.j0 k false)) else (coppicerkeep_EndsFew.j0 k false)) else (coppicerkeep_EndsFew.j0 k false)) else (coppicerkeep_EndsFew.j0 k false)) else (coppicerkeep_EndsFew.j0 k false)))) else (none)) else (none))))) = some r := by first | (rw [hy133]; with_reducible exact H) | (have H2_ := (Option.bind_some _ _).symm.trans H; rw [hy133]; with_reducible exact H2_) | (have H2_ := (Option.bind_some _ _).symm.trans H; with_reducible exact H2_) | with_reducible exact H | (rw [hy133]; exact H) | exact H
  have Ny133 := Aside0.mk hy133
  clear hy133
  replace H := Option.bind_eq_some_iff.mp H
  obtain ⟨t136, A60, H⟩ := H
  replace H : (if t136 = true then (if t128 = 0 then (some false) else (some (t130 != 0))) else (if (wrap64 ((l1.length : Int) + 1)) = 0 then (none) else (if 0 ≤ (Int.tmod (wrap64 (a2)) (wrap64 ((l1.length : Int) + 1))) then (if (Int.tmod (wrap64 (a2)) (wrap64 ((l1.length : Int) + 1))) ≤ (l1.length : Int) then ((ends_Count.f k l0 (l1.take ((Int.tmod (wrap64 (a2)) (wrap64 ((l1.length : Int) + 1))) : Int).toNat)).bind fun bt142 => ((ends_Count.f k l0 ([] : List Int)).bind fun bt144 => (if t128 = 0 then (if t130 = 0 then (if bt142.2 = 0 then (if bt144.2 = 0 then (if t127 = (t129.length : Int) then (if bt142.1 ≥ t127 then (coppicerkeep_EndsFew.j0 k (bt144.1 == (wrap64 ((l0.length : Int) + 1)))) else (coppicerkeep_EndsFew.j0 k false)) else (coppicerkeep_EndsFew.j0 k false)) else (coppicerkeep_EndsFew.j0 k false)) else (coppicerkeep_EndsFew.j0 k false)) else (coppicerkeep_EndsFew.j0 k false)) else (coppicerkeep_EndsFew.j0 k false)))) else (none)) else (none)))) = some r := H
  have A6 := Aside0.mk A60
  clear A60
  by_cases c7 : t136 = true
  · subst c7
    have H1 : (if t128 = 0 then (some false) else (some (t130 != 0))) = some r := by rw [if_pos rfl] at H; exact H
    clear H
    have H := H1
    clear H1
    by_cases c8 : t128 = 0
    · rw [if_pos c8] at H
      have c8b0 : (t128 == 0) = true := beq_iff_eq.mpr c8
      have c8b1 : (t128 != 0) = false := bne_eq_false_iff_eq.mpr c8
      clear c8
      obtain rfl := Option.some.inj H
      go_enter Try.func6, Try.ntmps6
      go_wp2_with (first | ((with_reducible refine gate_callee (f := 20) rfl ?_); refine goesL_ (some 19) rfl rfl Try.func20 (by kernel_rfl) rfl #[.slice A0 l0.length c0, .slice A1 l1.length c1] rfl (by (try simp only [List.map_toArray, List.map_cons, List.map_nil]); first | done | rfl | (simp only [List.length_drop, List.length_take]; rfl)) ?_; (with_reducible refine (ends_Count.calls k _ _ l0 _ _ l1 t127 t128 _ ?side1 ?side2 ?side3 ?side4 A4.out).mono ?_); (case side1 => repeat (first | exact (Kd.V_reads' HO0.out).2.2 | (with_reducible refine Kd.C_alloc ?_ _) | (with_reducible refine Kd.C_drewN ?_ _) | (with_reducible refine Kd.C_drew ?_))); (case side2 => exact (Kd.V_reads' HO0.out).2.1); (case side3 => repeat (first | exact (Kd.V_reads' HO1.out).2.2 | (with_reducible refine Kd.C_alloc ?_ _) | (with_reducible refine Kd.C_drewN ?_ _) | (with_reducible refine Kd.C_drew ?_))); (case side4 => exact (Kd.V_reads' HO1.out).2.1); rintro e w9 ⟨rfl, hb⟩; refine ⟨_, rfl, ?_⟩; have n0_ := Aside0.mk (Kd.V_below (by (with_reducible repeat (first | apply Kd.V_alloc | apply Kd.V_drewN | apply Kd.V_drew)); exact HO0.out) hb); have n1_ := Aside0.mk (Kd.V_below (by (with_reducible repeat (first | apply Kd.V_alloc | apply Kd.V_drewN | apply Kd.V_drew)); exact HO1.out) hb); have n2_ := Aside0.mk (below_step (by repeat (first | (with_reducible first | exact HB.out | apply below_alloc | apply pw_below_drewN | apply below_drew1) | exact HB.out)) hb); clear HO0; clear HO1; clear HB; have HO0 := n0_; have HO1 := n1_; have HB := n2_; clear n0_ n1_ n2_; (try clear hb); (try clear hb2); (try clear hk); (try clear hi)) | ((with_reducible refine gate_callee (f := 21) rfl ?_); refine goesL_ (some 25) rfl rfl Try.func21 (by kernel_rfl) rfl #[.slice A1 l1.length c1, .slice A0 l0.length c0] rfl (by (try simp only [List.map_toArray, List.map_cons, List.map_nil]); first | done | rfl | (simp only [List.length_drop, List.length_take]; rfl)) ?_; (with_reducible refine (border_Find.calls k _ _ l1 _ _ l0 t129 t130 _ ?side1 ?side2 ?side3 ?side4 A5.out).mono ?_); (case side1 => repeat (first | exact (Kd.V_reads' HO1.out).2.2 | (with_reducible refine Kd.C_alloc ?_ _) | (with_reducible refine Kd.C_drewN ?_ _) | (with_reducible refine Kd.C_drew ?_))); (case side2 => exact (Kd.V_reads' HO1.out).2.1); (case side3 => repeat (first | exact (Kd.V_reads' HO0.out).2.2 | (with_reducible refine Kd.C_alloc ?_ _) | (with_reducible refine Kd.C_drewN ?_ _) | (with_reducible refine Kd.C_drew ?_))); (case side4 => exact (Kd.V_reads' HO0.out).2.1); rintro e w10 ⟨v131, rfl, ho0, hb⟩; refine ⟨_, rfl, ?_⟩; have n0_ := Aside0.mk (Kd.V_elder' (by (with_reducible repeat (first | apply Kd.V_alloc | apply Kd.V_drewN | apply Kd.V_drew)); exact HO0.out) (Kd.R_base ho0) hb); have n1_ := Aside0.mk (Kd.V_elder' (by (with_reducible repeat (first | apply Kd.V_alloc | apply Kd.V_drewN | apply Kd.V_drew)); exact HO1.out) (Kd.R_base ho0) hb); have n2_ := Aside0.mk (Kd.R_lower (Kd.R_newM (M := fun k_ => (w.heap.size ≤ k_)) ho0 (below_size (by repeat (first | (with_reducible first | exact HB.out | apply below_alloc | apply pw_below_drewN | apply below_drew1) | exact HB.out))) (fun k_ h_ => h_)) (below_size (by repeat (first | (with_reducible first | exact HB.out | apply below_alloc | apply pw_below_drewN | apply below_drew1) | exact HB.out)))); have n3_ := Aside0.mk (below_step (by repeat (first | (with_reducible first | exact HB.out | apply below_alloc | apply pw_below_drewN | apply below_drew1) | exact HB.out)) hb); clear HO0; clear HO1; clear HB; have HO0 := n0_; have HO1 := n1_; have HO132 := n2_; have HB := n3_; clear n0_ n1_ n2_ n3_; (try clear hb); (try clear hb2); (try clear hk); (try clear hi); (try clear ho0)) | ((with_reducible refine gate_dst (N := 30) rfl ?_); (try (refine gate_guard (by rfl) ?_; dsimp only)); refine Kd.N_lit (Kd.slice 5 (Kd.int .u8)) _ 23 ?hg (N' := 30) ?hd (xs := ([l0, l1] : List (List Int))) (inner := [.slice A0 l0.length c0, .slice A1 l1.length c1]) (ok := (fun k_ => ((P0_ k_ ∨ P1_ k_) ∨ w.heap.size ≤ k_) ∧ some k_ ≠ (v131 : Value).ownBlock)) (okp := (fun k_ => ((P0_ k_ ∨ P1_ k_) ∨ w.heap.size ≤ k_) ∧ some k_ ≠ (v131 : Value).ownBlock)) ?hr ?hp (fun _ hk => hk) ((show ∀ k_, w10.heap.size ≤ k_ → (fun k_ => ((P0_ k_ ∨ P1_ k_) ∨ w.heap.size ≤ k_) ∧ some k_ ≠ (v131 : Value).ownBlock) k_ from fun k_ hk => ⟨(.inr (Nat.le_trans (below_size (by repeat (first | (with_reducible first | exact HB.out | apply below_alloc | apply pw_below_drewN | apply below_drew1) | exact HB.out))) hk)), Kd.fresh' (Kd.R_lt (by (with_reducible repeat (first | apply Kd.R_alloc | apply Kd.R_drewN | apply Kd.R_drew)); exact HO132.out)) k_ hk⟩) _ (Nat.le_refl _)) (Below.refl _ _) (Nat.le_refl _) (by simp) ?_; (case hd => rfl); (case hg => rfl); (case hr => first | (go_simp; done) | (go_simp; rfl)); (case hp => first | exact (Reps.one (show Kd.FK (Kd.slice 5 (Kd.int .u8)) _ _ l0 [.slice A0 l0.length c0] from (Kd.FK_slice_mk (Kd.V_reads' (Kd.V_mono (ok' := (fun k_ => ((P0_ k_ ∨ P1_ k_) ∨ w.heap.size ≤ k_) ∧ some k_ ≠ (v131 : Value).ownBlock)) (HO0.out) (fun k_ hk => ⟨hk.1, hk.2⟩))).2.1 (Kd.V_F (Kd.V_mono (ok' := (fun k_ => ((P0_ k_ ∨ P1_ k_) ∨ w.heap.size ≤ k_) ∧ some k_ ≠ (v131 : Value).ownBlock)) (HO0.out) (fun k_ hk => ⟨hk.1, hk.2⟩))))) (Reps.one (show Kd.FK (Kd.slice 5 (Kd.int .u8)) _ _ l1 [.slice A1 l1.length c1] from (Kd.FK_slice_mk (Kd.V_reads' (Kd.V_mono (ok' := (fun k_ => ((P0_ k_ ∨ P1_ k_) ∨ w.heap.size ≤ k_) ∧ some k_ ≠ (v131 : Value).ownBlock)) (HO1.out) (fun k_ hk => ⟨hk.1, hk.2⟩))).2.1 (Kd.V_F (Kd.V_mono (ok' := (fun k_ => ((P0_ k_ ∨ P1_ k_) ∨ w.heap.size ≤ k_) ∧ some k_ ≠ (v131 : Value).ownBlock)) (HO1.out) (fun k_ hk => ⟨hk.1, hk.2⟩))))) (Reps.none _ _))) | exact (Reps.one (show Kd.FK (Kd.slice 5 (Kd.int .u8)) _ _ l0 [.slice A0 l0.length c0] from (Kd.FK_slice_mk (Kd.V_reads' (Kd.V_mono (ok' := (fun k_ => ((P0_ k_ ∨ P1_ k_) ∨ w.heap.size ≤ k_) ∧ some k_ ≠ (v131 : Value).ownBlock)) (HO0.out) (fun k_ hk => ⟨hk.1, hk.2⟩))).2.1 (Kd.V_F (Kd.V_mono (ok' := (fun k_ => ((P0_ k_ ∨ P1_ k_) ∨ w.heap.size ≤ k_) ∧ some k_ ≠ (v131 : Value).ownBlock)) (Kd.V_drewN HO0.out _) (fun k_ hk => ⟨hk.1, hk.2⟩))))) (Reps.one (show Kd.FK (Kd.slice 5 (Kd.int .u8)) _ _ l1 [.slice A1 l1.length c1] from (Kd.FK_slice_mk (Kd.V_reads' (Kd.V_mono (ok' := (fun k_ => ((P0_ k_ ∨ P1_ k_) ∨ w.heap.size ≤ k_) ∧ some k_ ≠ (v131 : Value).ownBlock)) (HO1.out) (fun k_ hk => ⟨hk.1, hk.2⟩))).2.1 (Kd.V_F (Kd.V_mono (ok' := (fun k_ => ((P0_ k_ ∨ P1_ k_) ∨ w.heap.size ≤ k_) ∧ some k_ ≠ (v131 : Value).ownBlock)) (Kd.V_drewN HO1.out _) (fun k_ hk => ⟨hk.1, hk.2⟩))))) (Reps.none _ _)))); intro v134 w11 ho12 hb hg_ hnew_; clear hg_ hnew_; (first | rw [← Ny133.out] at ho12 | (simp only [Int.reduceToNat] at ho12; rw [← Ny133.out] at ho12)); have n0_ := Aside0.mk (Kd.V_elder' (by (with_reducible repeat (first | apply Kd.V_alloc | apply Kd.V_drewN | apply Kd.V_drew)); exact HO0.out) (by first | exact Kd.N_base ho12 | exact Kd.N_base (Kd.S_N ho12)) hb); have n1_ := Aside0.mk (Kd.V_elder' (by (with_reducible repeat (first | apply Kd.V_alloc | apply Kd.V_drewN | apply Kd.V_drew)); exact HO1.out) (by first | exact Kd.N_base ho12 | exact Kd.N_base (Kd.S_N ho12)) hb); have n2_ := Aside0.mk (Kd.R_below (by (with_reducible repeat (first | apply Kd.R_alloc | apply Kd.R_drewN | apply Kd.R_drew)); exact HO132.out) hb); have n3_ := Aside0.mk (Kd.N_lower ho12 (below_size (by repeat (first | (with_reducible first | exact HB.out | apply below_alloc | apply pw_below_drewN | apply below_drew1) | exact HB.out)))); have n4_ := Aside0.mk (below_step (by repeat (first | (with_reducible first | exact HB.out | apply below_alloc | apply pw_below_drewN | apply below_drew1) | exact HB.out)) hb); clear HO0; clear HO1; clear HO132; clear HB; have HO0 := n0_; have HO1 := n1_; have HO132 := n2_; have HO135 := n3_; have HB := n4_; clear n0_ n1_ n2_ n3_ n4_; clear hb ho12; obtain ⟨Ao13, co13, eo13⟩ := Kd.N_slice HO135.out; subst eo13) | ((with_reducible refine gate_callee (f := 19) rfl ?_); refine goesL_ (some 31) rfl rfl Try.func19 (by kernel_rfl) rfl #[.slice Ao13 y133.length co13] rfl (by (try simp only [List.map_toArray, List.map_cons, List.map_nil]); first | done | rfl | (simp only [List.length_drop, List.length_take]; rfl)) ?_; (with_reducible refine (coppicerkeep_long.calls k _ _ y133 true _ ?side1 ?side2 A6.out).mono ?_); (case side1 => repeat (first | exact (Kd.N_reads' HO135.out).2.2 | (with_reducible refine Kd.C_alloc ?_ _) | (with_reducible refine Kd.C_drewN ?_ _) | (with_reducible refine Kd.C_drew ?_))); (case side2 => exact (Kd.N_reads' HO135.out).2.1); rintro e w' ⟨rfl, ⟨nd, rfl⟩⟩; refine ⟨_, rfl, ?_⟩))
      go_ret
      exact ⟨by first | rfl | (simp [errW_none, errW_some] <;> rfl) | (simp [*, errW_none, errW_some] <;> rfl), by repeat (first | (with_reducible first | exact HB.out | apply below_alloc | apply pw_below_drewN | apply below_drew1) | exact HB.out)⟩
    · rw [if_neg c8] at H
      have c8b0 : (t128 == 0) = false := beq_eq_false_iff_ne.mpr c8
      have c8b1 : (t128 != 0) = true := bne_iff_ne.mpr c8
      obtain rfl := Option.some.inj H
      go_enter Try.func6, Try.ntmps6
      go_wp2_with (first | ((with_reducible refine gate_callee (f := 20) rfl ?_); refine goesL_ (some 19) rfl rfl Try.func20 (by kernel_rfl) rfl #[.slice A0 l0.length c0, .slice A1 l1.length c1] rfl (by (try simp only [List.map_toArray, List.map_cons, List.map_nil]); first | done | rfl | (simp only [List.length_drop, List.length_take]; rfl)) ?_; (with_reducible refine (ends_Count.calls k _ _ l0 _ _ l1 t127 t128 _ ?side1 ?side2 ?side3 ?side4 A4.out).mono ?_); (case side1 => repeat (first | exact (Kd.V_reads' HO0.out).2.2 | (with_reducible refine Kd.C_alloc ?_ _) | (with_reducible refine Kd.C_drewN ?_ _) | (with_reducible refine Kd.C_drew ?_))); (case side2 => exact (Kd.V_reads' HO0.out).2.1); (case side3 => repeat (first | exact (Kd.V_reads' HO1.out).2.2 | (with_reducible refine Kd.C_alloc ?_ _) | (with_reducible refine Kd.C_drewN ?_ _) | (with_reducible refine Kd.C_drew ?_))); (case side4 => exact (Kd.V_reads' HO1.out).2.1); rintro e w14 ⟨rfl, hb⟩; refine ⟨_, rfl, ?_⟩; have n0_ := Aside0.mk (Kd.V_below (by (with_reducible repeat (first | apply Kd.V_alloc | apply Kd.V_drewN | apply Kd.V_drew)); exact HO0.out) hb); have n1_ := Aside0.mk (Kd.V_below (by (with_reducible repeat (first | apply Kd.V_alloc | apply Kd.V_drewN | apply Kd.V_drew)); exact HO1.out) hb); have n2_ := Aside0.mk (below_step (by repeat (first | (with_reducible first | exact HB.out | apply below_alloc | apply pw_below_drewN | apply below_drew1) | exact HB.out)) hb); clear HO0; clear HO1; clear HB; have HO0 := n0_; have HO1 := n1_; have HB := n2_; clear n0_ n1_ n2_; (try clear hb); (try clear hb2); (try clear hk); (try clear hi)) | ((with_reducible refine gate_callee (f := 21) rfl ?_); refine goesL_ (some 25) rfl rfl Try.func21 (by kernel_rfl) rfl #[.slice A1 l1.length c1, .slice A0 l0.length c0] rfl (by (try simp only [List.map_toArray, List.map_cons, List.map_nil]); first | done | rfl | (simp only [List.length_drop, List.length_take]; rfl)) ?_; (with_reducible refine (border_Find.calls k _ _ l1 _ _ l0 t129 t130 _ ?side1 ?side2 ?side3 ?side4 A5.out).mono ?_); (case side1 => repeat (first | exact (Kd.V_reads' HO1.out).2.2 | (with_reducible refine Kd.C_alloc ?_ _) | (with_reducible refine Kd.C_drewN ?_ _) | (with_reducible refine Kd.C_drew ?_))); (case side2 => exact (Kd.V_reads' HO1.out).2.1); (case side3 => repeat (first | exact (Kd.V_reads' HO0.out).2.2 | (with_reducible refine Kd.C_alloc ?_ _) | (with_reducible refine Kd.C_drewN ?_ _) | (with_reducible refine Kd.C_drew ?_))); (case side4 => exact (Kd.V_reads' HO0.out).2.1); rintro e w15 ⟨v131, rfl, ho0, hb⟩; refine ⟨_, rfl, ?_⟩; have n0_ := Aside0.mk (Kd.V_elder' (by (with_reducible repeat (first | apply Kd.V_alloc | apply Kd.V_drewN | apply Kd.V_drew)); exact HO0.out) (Kd.R_base ho0) hb); have n1_ := Aside0.mk (Kd.V_elder' (by (with_reducible repeat (first | apply Kd.V_alloc | apply Kd.V_drewN | apply Kd.V_drew)); exact HO1.out) (Kd.R_base ho0) hb); have n2_ := Aside0.mk (Kd.R_lower (Kd.R_newM (M := fun k_ => (w.heap.size ≤ k_)) ho0 (below_size (by repeat (first | (with_reducible first | exact HB.out | apply below_alloc | apply pw_below_drewN | apply below_drew1) | exact HB.out))) (fun k_ h_ => h_)) (below_size (by repeat (first | (with_reducible first | exact HB.out | apply below_alloc | apply pw_below_drewN | apply below_drew1) | exact HB.out)))); have n3_ := Aside0.mk (below_step (by repeat (first | (with_reducible first | exact HB.out | apply below_alloc | apply pw_below_drewN | apply below_drew1) | exact HB.out)) hb); clear HO0; clear HO1; clear HB; have HO0 := n0_; have HO1 := n1_; have HO132 := n2_; have HB := n3_; clear n0_ n1_ n2_ n3_; (try clear hb); (try clear hb2); (try clear hk); (try clear hi); (try clear ho0)) | ((with_reducible refine gate_dst (N := 30) rfl ?_); (try (refine gate_guard (by rfl) ?_; dsimp only)); refine Kd.N_lit (Kd.slice 5 (Kd.int .u8)) _ 23 ?hg (N' := 30) ?hd (xs := ([l0, l1] : List (List Int))) (inner := [.slice A0 l0.length c0, .slice A1 l1.length c1]) (ok := (fun k_ => ((P0_ k_ ∨ P1_ k_) ∨ w.heap.size ≤ k_) ∧ some k_ ≠ (v131 : Value).ownBlock)) (okp := (fun k_ => ((P0_ k_ ∨ P1_ k_) ∨ w.heap.size ≤ k_) ∧ some k_ ≠ (v131 : Value).ownBlock)) ?hr ?hp (fun _ hk => hk) ((show ∀ k_, w15.heap.size ≤ k_ → (fun k_ => ((P0_ k_ ∨ P1_ k_) ∨ w.heap.size ≤ k_) ∧ some k_ ≠ (v131 : Value).ownBlock) k_ from fun k_ hk => ⟨(.inr (Nat.le_trans (below_size (by repeat (first | (with_reducible first | exact HB.out | apply below_alloc | apply pw_below_drewN | apply below_drew1) | exact HB.out))) hk)), Kd.fresh' (Kd.R_lt (by (with_reducible repeat (first | apply Kd.R_alloc | apply Kd.R_drewN | apply Kd.R_drew)); exact HO132.out)) k_ hk⟩) _ (Nat.le_refl _)) (Below.refl _ _) (Nat.le_refl _) (by simp) ?_; (case hd => rfl); (case hg => rfl); (case hr => first | (go_simp; done) | (go_simp; rfl)); (case hp => first | exact (Reps.one (show Kd.FK (Kd.slice 5 (Kd.int .u8)) _ _ l0 [.slice A0 l0.length c0] from (Kd.FK_slice_mk (Kd.V_reads' (Kd.V_mono (ok' := (fun k_ => ((P0_ k_ ∨ P1_ k_) ∨ w.heap.size ≤ k_) ∧ some k_ ≠ (v131 : Value).ownBlock)) (HO0.out) (fun k_ hk => ⟨hk.1, hk.2⟩))).2.1 (Kd.V_F (Kd.V_mono (ok' := (fun k_ => ((P0_ k_ ∨ P1_ k_) ∨ w.heap.size ≤ k_) ∧ some k_ ≠ (v131 : Value).ownBlock)) (HO0.out) (fun k_ hk => ⟨hk.1, hk.2⟩))))) (Reps.one (show Kd.FK (Kd.slice 5 (Kd.int .u8)) _ _ l1 [.slice A1 l1.length c1] from (Kd.FK_slice_mk (Kd.V_reads' (Kd.V_mono (ok' := (fun k_ => ((P0_ k_ ∨ P1_ k_) ∨ w.heap.size ≤ k_) ∧ some k_ ≠ (v131 : Value).ownBlock)) (HO1.out) (fun k_ hk => ⟨hk.1, hk.2⟩))).2.1 (Kd.V_F (Kd.V_mono (ok' := (fun k_ => ((P0_ k_ ∨ P1_ k_) ∨ w.heap.size ≤ k_) ∧ some k_ ≠ (v131 : Value).ownBlock)) (HO1.out) (fun k_ hk => ⟨hk.1, hk.2⟩))))) (Reps.none _ _))) | exact (Reps.one (show Kd.FK (Kd.slice 5 (Kd.int .u8)) _ _ l0 [.slice A0 l0.length c0] from (Kd.FK_slice_mk (Kd.V_reads' (Kd.V_mono (ok' := (fun k_ => ((P0_ k_ ∨ P1_ k_) ∨ w.heap.size ≤ k_) ∧ some k_ ≠ (v131 : Value).ownBlock)) (HO0.out) (fun k_ hk => ⟨hk.1, hk.2⟩))).2.1 (Kd.V_F (Kd.V_mono (ok' := (fun k_ => ((P0_ k_ ∨ P1_ k_) ∨ w.heap.size ≤ k_) ∧ some k_ ≠ (v131 : Value).ownBlock)) (Kd.V_drewN HO0.out _) (fun k_ hk => ⟨hk.1, hk.2⟩))))) (Reps.one (show Kd.FK (Kd.slice 5 (Kd.int .u8)) _ _ l1 [.slice A1 l1.length c1] from (Kd.FK_slice_mk (Kd.V_reads' (Kd.V_mono (ok' := (fun k_ => ((P0_ k_ ∨ P1_ k_) ∨ w.heap.size ≤ k_) ∧ some k_ ≠ (v131 : Value).ownBlock)) (HO1.out) (fun k_ hk => ⟨hk.1, hk.2⟩))).2.1 (Kd.V_F (Kd.V_mono (ok' := (fun k_ => ((P0_ k_ ∨ P1_ k_) ∨ w.heap.size ≤ k_) ∧ some k_ ≠ (v131 : Value).ownBlock)) (Kd.V_drewN HO1.out _) (fun k_ hk => ⟨hk.1, hk.2⟩))))) (Reps.none _ _)))); intro v134 w16 ho17 hb hg_ hnew_; clear hg_ hnew_; (first | rw [← Ny133.out] at ho17 | (simp only [Int.reduceToNat] at ho17; rw [← Ny133.out] at ho17)); have n0_ := Aside0.mk (Kd.V_elder' (by (with_reducible repeat (first | apply Kd.V_alloc | apply Kd.V_drewN | apply Kd.V_drew)); exact HO0.out) (by first | exact Kd.N_base ho17 | exact Kd.N_base (Kd.S_N ho17)) hb); have n1_ := Aside0.mk (Kd.V_elder' (by (with_reducible repeat (first | apply Kd.V_alloc | apply Kd.V_drewN | apply Kd.V_drew)); exact HO1.out) (by first | exact Kd.N_base ho17 | exact Kd.N_base (Kd.S_N ho17)) hb); have n2_ := Aside0.mk (Kd.R_below (by (with_reducible repeat (first | apply Kd.R_alloc | apply Kd.R_drewN | apply Kd.R_drew)); exact HO132.out) hb); have n3_ := Aside0.mk (Kd.N_lower ho17 (below_size (by repeat (first | (with_reducible first | exact HB.out | apply below_alloc | apply pw_below_drewN | apply below_drew1) | exact HB.out)))); have n4_ := Aside0.mk (below_step (by repeat (first | (with_reducible first | exact HB.out | apply below_alloc | apply pw_below_drewN | apply below_drew1) | exact HB.out)) hb); clear HO0; clear HO1; clear HO132; clear HB; have HO0 := n0_; have HO1 := n1_; have HO132 := n2_; have HO135 := n3_; have HB := n4_; clear n0_ n1_ n2_ n3_ n4_; clear hb ho17; obtain ⟨Ao18, co18, eo18⟩ := Kd.N_slice HO135.out; subst eo18) | ((with_reducible refine gate_callee (f := 19) rfl ?_); refine goesL_ (some 31) rfl rfl Try.func19 (by kernel_rfl) rfl #[.slice Ao18 y133.length co18] rfl (by (try simp only [List.map_toArray, List.map_cons, List.map_nil]); first | done | rfl | (simp only [List.length_drop, List.length_take]; rfl)) ?_; (with_reducible refine (coppicerkeep_long.calls k _ _ y133 true _ ?side1 ?side2 A6.out).mono ?_); (case side1 => repeat (first | exact (Kd.N_reads' HO135.out).2.2 | (with_reducible refine Kd.C_alloc ?_ _) | (with_reducible refine Kd.C_drewN ?_ _) | (with_reducible refine Kd.C_drew ?_))); (case side2 => exact (Kd.N_reads' HO135.out).2.1); rintro e w' ⟨rfl, ⟨nd, rfl⟩⟩; refine ⟨_, rfl, ?_⟩))
      go_ret
      exact ⟨by first | rfl | (simp [errW_none, errW_some] <;> rfl) | (simp [*, errW_none, errW_some] <;> rfl), by repeat (first | (with_reducible first | exact HB.out | apply below_alloc | apply pw_below_drewN | apply below_drew1) | exact HB.out)⟩
  · replace c7 := Bool.eq_false_iff.mpr c7
    subst c7
    have H1 : (if (wrap64 ((l1.length : Int) + 1)) = 0 then (none) else (if 0 ≤ (Int.tmod (wrap64 (a2)) (wrap64 ((l1.length : Int) + 1))) then (if (Int.tmod (wrap64 (a2)) (wrap64 ((l1.length : Int) + 1))) ≤ (l1.length : Int) then ((ends_Count.f k l0 (l1.take ((Int.tmod (wrap64 (a2)) (wrap64 ((l1.length : Int) + 1))) : Int).toNat)).bind fun bt142 => ((ends_Count.f k l0 ([] : List Int)).bind fun bt144 => (if t128 = 0 then (if t130 = 0 then (if bt142.2 = 0 then (if bt144.2 = 0 then (if t127 = (t129.length : Int) then (if bt142.1 ≥ t127 then (coppicerkeep_EndsFew.j0 k (bt144.1 == (wrap64 ((l0.length : Int) + 1)))) else (coppicerkeep_EndsFew.j0 k false)) else (coppicerkeep_EndsFew.j0 k false)) else (coppicerkeep_EndsFew.j0 k false)) else (coppicerkeep_EndsFew.j0 k false)) else (coppicerkeep_EndsFew.j0 k false)) else (coppicerkeep_EndsFew.j0 k false)))) else (none)) else (none))) = some r := by rw [if_neg (show ¬ (false = true) by decide)] at H; exact H
    clear H
    have H := H1
    clear H1
    by_cases c19 : (wrap64 ((l1.length : Int) + 1)) = 0
    · rw [if_pos c19] at H
      exact absurd H (by simp)
    · rw [if_neg c19] at H
      have c19b0 : ((wrap64 ((l1.length : Int) + 1)) == 0) = false := beq_eq_false_iff_ne.mpr c19
      have c19b1 : ((wrap64 ((l1.length : Int) + 1)) != 0) = true := bne_iff_ne.mpr c19
      obtain ⟨ji20, hji20⟩ : ∃ j_ : Int, (Int.tmod (wrap64 (a2)) (wrap64 ((l1.length : Int) + 1))) = j_ := ⟨_, rfl⟩
      replace H : (if 0 ≤ (ji20) then (if (ji20) ≤ (l1.length : Int) then ((ends_Count.f k l0 (l1.take ((ji20) : Int).toNat)).bind fun bt142 => ((ends_Count.f k l0 ([] : List Int)).bind fun bt144 => (if t128 = 0 then (if t130 = 0 then (if bt142.2 = 0 then (if bt144.2 = 0 then (if t127 = (t129.length : Int) then (if bt142.1 ≥ t127 then (coppicerkeep_EndsFew.j0 k (bt144.1 == (wrap64 ((l0.length : Int) + 1)))) else (coppicerkeep_EndsFew.j0 k false)) else (coppicerkeep_EndsFew.j0 k false)) else (coppicerkeep_EndsFew.j0 k false)) else (coppicerkeep_EndsFew.j0 k false)) else (coppicerkeep_EndsFew.j0 k false)) else (coppicerkeep_EndsFew.j0 k false)))) else (none)) else (none)) = some r := by first | (rw [hji20] at H; exact H) | (simp only [hji20] at H ⊢; exact H)
      (try rw [hji20] at A4)
      (try rw [hji20] at A5)
      (try rw [hji20] at A6)
      by_cases c21 : 0 ≤ (ji20)
      · rw [if_pos c21] at H
        have c21b0 := eq_true c21
        have c21b1 : decide (0 ≤ (ji20)) = true := decide_eq_true c21
        clear c21
        by_cases c22 : (ji20) ≤ (l1.length : Int)
        · rw [if_pos c22] at H
          have c22b0 := eq_true c22
          have c22b1 : decide ((ji20) ≤ (l1.length : Int)) = true := decide_eq_true c22
          clear c22
          obtain ⟨y137, hy137⟩ : ∃ y_ : List Int, y_ = (l1.take ((ji20) : Int).toNat) := ⟨_, rfl⟩
          replace H : ((ends_Count.f k l0 y137).bind fun bt142 => ((ends_Count.f k l0 ([] : List Int)).bind fun bt144 => (if t128 = 0 then (if t130 = 0 then (if bt142.2 = 0 then (if bt144.2 = 0 then (if t127 = (t129.length : Int) then (if bt142.1 ≥ t127 then (coppicerkeep_EndsFew.j0 k (bt144.1 == (wrap64 ((l0.length : Int) + 1)))) else (coppicerkeep_EndsFew.j0 k false)) else (coppicerkeep_EndsFew.j0 k false)) else (coppicerkeep_EndsFew.j0 k false)) else (coppicerkeep_EndsFew.j0 k false)) else (coppicerkeep_EndsFew.j0 k false)) else (coppicerkeep_EndsFew.j0 k false)))) = some r := by first | (rw [hy137]; with_reducible exact H) | (have H2_ := (Option.bind_some _ _).symm.trans H; rw [hy137]; with_reducible exact H2_) | (have H2_ := (Option.bind_some _ _).symm.trans H; with_reducible exact H2_) | with_reducible exact H | (rw [hy137]; exact H) | exact H
          have Ny137 := Aside0.mk hy137
          clear hy137
          replace H := Option.bind_eq_some_iff.mp H
          obtain ⟨⟨t142, t143⟩, A230, H⟩ := H
          replace H : ((ends_Count.f k l0 ([] : List Int)).bind fun bt144 => (if t128 = 0 then (if t130 = 0 then (if t143 = 0 then (if bt144.2 = 0 then (if t127 = (t129.length : Int) then (if t142 ≥ t127 then (coppicerkeep_EndsFew.j0 k (bt144.1 == (wrap64 ((l0.length : Int) + 1)))) else (coppicerkeep_EndsFew.j0 k false)) else (coppicerkeep_EndsFew.j0 k false)) else (coppicerkeep_EndsFew.j0 k false)) else (coppicerkeep_EndsFew.j0 k false)) else (coppicerkeep_EndsFew.j0 k false)) else (coppicerkeep_EndsFew.j0 k false))) = some r := H
          have A23 := Aside0.mk A230
          clear A230
          replace H := Option.bind_eq_some_iff.mp H
          obtain ⟨⟨t144, t145⟩, A240, H⟩ := H
          replace H : (if t128 = 0 then (if t130 = 0 then (if t143 = 0 then (if t145 = 0 then (if t127 = (t129.length : Int) then (if t142 ≥ t127 then (coppicerkeep_EndsFew.j0 k (t144 == (wrap64 ((l0.length : Int) + 1)))) else (coppicerkeep_EndsFew.j0 k false)) else (coppicerkeep_EndsFew.j0 k false)) else (coppicerkeep_EndsFew.j0 k false)) else (coppicerkeep_EndsFew.j0 k false)) else (coppicerkeep_EndsFew.j0 k false)) else (coppicerkeep_EndsFew.j0 k false)) = some r := H
          have A24 := Aside0.mk A240
          clear A240
          have HC25 := Aside0.mk H
          clear H
          go_enter Try.func6, Try.ntmps6
          go_upto_region 8 with (first | ((with_reducible refine gate_callee (f := 20) rfl ?_); refine goesL_ (some 19) rfl rfl Try.func20 (by kernel_rfl) rfl #[.slice A0 l0.length c0, .slice A1 l1.length c1] rfl (by (try simp only [List.map_toArray, List.map_cons, List.map_nil]); first | done | rfl | (simp only [List.length_drop, List.length_take]; rfl)) ?_; (with_reducible refine (ends_Count.calls k _ _ l0 _ _ l1 t127 t128 _ ?side1 ?side2 ?side3 ?side4 A4.out).mono ?_); (case side1 => repeat (first | exact (Kd.V_reads' HO0.out).2.2 | (with_reducible refine Kd.C_alloc ?_ _) | (with_reducible refine Kd.C_drewN ?_ _) | (with_reducible refine Kd.C_drew ?_))); (case side2 => exact (Kd.V_reads' HO0.out).2.1); (case side3 => repeat (first | exact (Kd.V_reads' HO1.out).2.2 | (with_reducible refine Kd.C_alloc ?_ _) | (with_reducible refine Kd.C_drewN ?_ _) | (with_reducible refine Kd.C_drew ?_))); (case side4 => exact (Kd.V_reads' HO1.out).2.1); rintro e w26 ⟨rfl, hb⟩; refine ⟨_, rfl, ?_⟩; have n0_ := Aside0.mk (Kd.V_below (by (with_reducible repeat (first | apply Kd.V_alloc | apply Kd.V_drewN | apply Kd.V_drew)); exact HO0.out) hb); have n1_ := Aside0.mk (Kd.V_below (by (with_reducible repeat (first | apply Kd.V_alloc | apply Kd.V_drewN | apply Kd.V_drew)); exact HO1.out) hb); have n2_ := Aside0.mk (below_step (by repeat (first | (with_reducible first | exact HB.out | apply below_alloc | apply pw_below_drewN | apply below_drew1) | exact HB.out)) hb); clear HO0; clear HO1; clear HB; have HO0 := n0_; have HO1 := n1_; have HB := n2_; clear n0_ n1_ n2_; (try clear hb); (try clear hb2); (try clear hk); (try clear hi)) | ((with_reducible refine gate_callee (f := 21) rfl ?_); refine goesL_ (some 25) rfl rfl Try.func21 (by kernel_rfl) rfl #[.slice A1 l1.length c1, .slice A0 l0.length c0] rfl (by (try simp only [List.map_toArray, List.map_cons, List.map_nil]); first | done | rfl | (simp only [List.length_drop, List.length_take]; rfl)) ?_; (with_reducible refine (border_Find.calls k _ _ l1 _ _ l0 t129 t130 _ ?side1 ?side2 ?side3 ?side4 A5.out).mono ?_); (case side1 => repeat (first | exact (Kd.V_reads' HO1.out).2.2 | (with_reducible refine Kd.C_alloc ?_ _) | (with_reducible refine Kd.C_drewN ?_ _) | (with_reducible refine Kd.C_drew ?_))); (case side2 => exact (Kd.V_reads' HO1.out).2.1); (case side3 => repeat (first | exact (Kd.V_reads' HO0.out).2.2 | (with_reducible refine Kd.C_alloc ?_ _) | (with_reducible refine Kd.C_drewN ?_ _) | (with_reducible refine Kd.C_drew ?_))); (case side4 => exact (Kd.V_reads' HO0.out).2.1); rintro e w27 ⟨v131, rfl, ho0, hb⟩; refine ⟨_, rfl, ?_⟩; have n0_ := Aside0.mk (Kd.V_elder' (by (with_reducible repeat (first | apply Kd.V_alloc | apply Kd.V_drewN | apply Kd.V_drew)); exact HO0.out) (Kd.R_base ho0) hb); have n1_ := Aside0.mk (Kd.V_elder' (by (with_reducible repeat (first | apply Kd.V_alloc | apply Kd.V_drewN | apply Kd.V_drew)); exact HO1.out) (Kd.R_base ho0) hb); have n2_ := Aside0.mk (Kd.R_lower (Kd.R_newM (M := fun k_ => (w.heap.size ≤ k_)) ho0 (below_size (by repeat (first | (with_reducible first | exact HB.out | apply below_alloc | apply pw_below_drewN | apply below_drew1) | exact HB.out))) (fun k_ h_ => h_)) (below_size (by repeat (first | (with_reducible first | exact HB.out | apply below_alloc | apply pw_below_drewN | apply below_drew1) | exact HB.out)))); have n3_ := Aside0.mk (below_step (by repeat (first | (with_reducible first | exact HB.out | apply below_alloc | apply pw_below_drewN | apply below_drew1) | exact HB.out)) hb); clear HO0; clear HO1; clear HB; have HO0 := n0_; have HO1 := n1_; have HO132 := n2_; have HB := n3_; clear n0_ n1_ n2_ n3_; (try clear hb); (try clear hb2); (try clear hk); (try clear hi); (try clear ho0)) | ((with_reducible refine gate_dst (N := 30) rfl ?_); (try (refine gate_guard (by rfl) ?_; dsimp only)); refine Kd.N_lit (Kd.slice 5 (Kd.int .u8)) _ 23 ?hg (N' := 30) ?hd (xs := ([l0, l1] : List (List Int))) (inner := [.slice A0 l0.length c0, .slice A1 l1.length c1]) (ok := (fun k_ => ((P0_ k_ ∨ P1_ k_) ∨ w.heap.size ≤ k_) ∧ some k_ ≠ (v131 : Value).ownBlock)) (okp := (fun k_ => ((P0_ k_ ∨ P1_ k_) ∨ w.heap.size ≤ k_) ∧ some k_ ≠ (v131 : Value).ownBlock)) ?hr ?hp (fun _ hk => hk) ((show ∀ k_, w27.heap.size ≤ k_ → (fun k_ => ((P0_ k_ ∨ P1_ k_) ∨ w.heap.size ≤ k_) ∧ some k_ ≠ (v131 : Value).ownBlock) k_ from fun k_ hk => ⟨(.inr (Nat.le_trans (below_size (by repeat (first | (with_reducible first | exact HB.out | apply below_alloc | apply pw_below_drewN | apply below_drew1) | exact HB.out))) hk)), Kd.fresh' (Kd.R_lt (by (with_reducible repeat (first | apply Kd.R_alloc | apply Kd.R_drewN | apply Kd.R_drew)); exact HO132.out)) k_ hk⟩) _ (Nat.le_refl _)) (Below.refl _ _) (Nat.le_refl _) (by simp) ?_; (case hd => rfl); (case hg => rfl); (case hr => first | (go_simp; done) | (go_simp; rfl)); (case hp => first | exact (Reps.one (show Kd.FK (Kd.slice 5 (Kd.int .u8)) _ _ l0 [.slice A0 l0.length c0] from (Kd.FK_slice_mk (Kd.V_reads' (Kd.V_mono (ok' := (fun k_ => ((P0_ k_ ∨ P1_ k_) ∨ w.heap.size ≤ k_) ∧ some k_ ≠ (v131 : Value).ownBlock)) (HO0.out) (fun k_ hk => ⟨hk.1, hk.2⟩))).2.1 (Kd.V_F (Kd.V_mono (ok' := (fun k_ => ((P0_ k_ ∨ P1_ k_) ∨ w.heap.size ≤ k_) ∧ some k_ ≠ (v131 : Value).ownBlock)) (HO0.out) (fun k_ hk => ⟨hk.1, hk.2⟩))))) (Reps.one (show Kd.FK (Kd.slice 5 (Kd.int .u8)) _ _ l1 [.slice A1 l1.length c1] from (Kd.FK_slice_mk (Kd.V_reads' (Kd.V_mono (ok' := (fun k_ => ((P0_ k_ ∨ P1_ k_) ∨ w.heap.size ≤ k_) ∧ some k_ ≠ (v131 : Value).ownBlock)) (HO1.out) (fun k_ hk => ⟨hk.1, hk.2⟩))).2.1 (Kd.V_F (Kd.V_mono (ok' := (fun k_ => ((P0_ k_ ∨ P1_ k_) ∨ w.heap.size ≤ k_) ∧ some k_ ≠ (v131 : Value).ownBlock)) (HO1.out) (fun k_ hk => ⟨hk.1, hk.2⟩))))) (Reps.none _ _))) | exact (Reps.one (show Kd.FK (Kd.slice 5 (Kd.int .u8)) _ _ l0 [.slice A0 l0.length c0] from (Kd.FK_slice_mk (Kd.V_reads' (Kd.V_mono (ok' := (fun k_ => ((P0_ k_ ∨ P1_ k_) ∨ w.heap.size ≤ k_) ∧ some k_ ≠ (v131 : Value).ownBlock)) (HO0.out) (fun k_ hk => ⟨hk.1, hk.2⟩))).2.1 (Kd.V_F (Kd.V_mono (ok' := (fun k_ => ((P0_ k_ ∨ P1_ k_) ∨ w.heap.size ≤ k_) ∧ some k_ ≠ (v131 : Value).ownBlock)) (Kd.V_drewN HO0.out _) (fun k_ hk => ⟨hk.1, hk.2⟩))))) (Reps.one (show Kd.FK (Kd.slice 5 (Kd.int .u8)) _ _ l1 [.slice A1 l1.length c1] from (Kd.FK_slice_mk (Kd.V_reads' (Kd.V_mono (ok' := (fun k_ => ((P0_ k_ ∨ P1_ k_) ∨ w.heap.size ≤ k_) ∧ some k_ ≠ (v131 : Value).ownBlock)) (HO1.out) (fun k_ hk => ⟨hk.1, hk.2⟩))).2.1 (Kd.V_F (Kd.V_mono (ok' := (fun k_ => ((P0_ k_ ∨ P1_ k_) ∨ w.heap.size ≤ k_) ∧ some k_ ≠ (v131 : Value).ownBlock)) (Kd.V_drewN HO1.out _) (fun k_ hk => ⟨hk.1, hk.2⟩))))) (Reps.none _ _)))); intro v134 w28 ho29 hb hg_ hnew_; clear hg_ hnew_; (first | rw [← Ny133.out] at ho29 | (simp only [Int.reduceToNat] at ho29; rw [← Ny133.out] at ho29)); have n0_ := Aside0.mk (Kd.V_elder' (by (with_reducible repeat (first | apply Kd.V_alloc | apply Kd.V_drewN | apply Kd.V_drew)); exact HO0.out) (by first | exact Kd.N_base ho29 | exact Kd.N_base (Kd.S_N ho29)) hb); have n1_ := Aside0.mk (Kd.V_elder' (by (with_reducible repeat (first | apply Kd.V_alloc | apply Kd.V_drewN | apply Kd.V_drew)); exact HO1.out) (by first | exact Kd.N_base ho29 | exact Kd.N_base (Kd.S_N ho29)) hb); have n2_ := Aside0.mk (Kd.R_below (by (with_reducible repeat (first | apply Kd.R_alloc | apply Kd.R_drewN | apply Kd.R_drew)); exact HO132.out) hb); have n3_ := Aside0.mk (Kd.N_lower ho29 (below_size (by repeat (first | (with_reducible first | exact HB.out | apply below_alloc | apply pw_below_drewN | apply below_drew1) | exact HB.out)))); have n4_ := Aside0.mk (below_step (by repeat (first | (with_reducible first | exact HB.out | apply below_alloc | apply pw_below_drewN | apply below_drew1) | exact HB.out)) hb); clear HO0; clear HO1; clear HO132; clear HB; have HO0 := n0_; have HO1 := n1_; have HO132 := n2_; have HO135 := n3_; have HB := n4_; clear n0_ n1_ n2_ n3_ n4_; clear hb ho29; obtain ⟨Ao30, co30, eo30⟩ := Kd.N_slice HO135.out; subst eo30) | ((with_reducible refine gate_callee (f := 19) rfl ?_); refine goesL_ (some 31) rfl rfl Try.func19 (by kernel_rfl) rfl #[.slice Ao30 y133.length co30] rfl (by (try simp only [List.map_toArray, List.map_cons, List.map_nil]); first | done | rfl | (simp only [List.length_drop, List.length_take]; rfl)) ?_; (with_reducible refine (coppicerkeep_long.calls k _ _ y133 false _ ?side1 ?side2 A6.out).mono ?_); (case side1 => repeat (first | exact (Kd.N_reads' HO135.out).2.2 | (with_reducible refine Kd.C_alloc ?_ _) | (with_reducible refine Kd.C_drewN ?_ _) | (with_reducible refine Kd.C_drew ?_))); (case side2 => exact (Kd.N_reads' HO135.out).2.1); rintro e w' ⟨rfl, ⟨nd, rfl⟩⟩; refine ⟨_, rfl, ?_⟩; have q31 : ((ji20) : Int) ≤ ((l1.length : Int) : Int) := of_decide_eq_true (by first | (with_reducible assumption) | assumption); obtain ⟨i031, hi031, _, hsz31, _⟩ := info_parts info5; have hroom31 : l1.length ≤ c1 := (Kd.V_reads' HO1.out).2.1; have hC31 : Kd.F (Kd.int .u8) _ _ A1 l1.length l1 := (Kd.V_at (base := w.heap.size) HO1.out).2.2; have hcut31 := cut_to (P := Try.prog) 23 5 .i64 Try.underlying23 hi031 A1 l1.length c1 (ji20) (of_decide_eq_true (by first | (with_reducible assumption) | assumption)) q31 hroom31; have hr31 := Kd.F_take (m := ((ji20) : Int).toNat) hC31 (by omega); have hy31 : y137.length = ((ji20) : Int).toNat := (by rw [Ny137.out, List.length_take]; omega); rw [← Ny137.out] at hr31; rw [← hy31] at hcut31; have HO141 := Aside0.mk (show Kd.V (Kd.int .u8) 5 _ w.heap.size _ (.slice A1 y137.length c1) y137 from Kd.V_mk (by omega) hr31); have HC141 := Aside0.mk (show y137.length ≤ c1 from by omega); clear hr31 hC31 hroom31 hi031 hsz31; have KY31 := Aside0.mk hy31; clear hy31; replace q31 := eq_true q31) | ((with_reducible refine gate_callee (f := 20) rfl ?_); refine goesL_ (some 49) rfl rfl Try.func20 (by kernel_rfl) rfl #[.slice A0 l0.length c0, .slice A1 y137.length c1] rfl (by (try simp only [List.map_toArray, List.map_cons, List.map_nil]); first | done | rfl | (simp only [List.length_drop, List.length_take]; rfl)) ?_; (with_reducible refine (ends_Count.calls k _ _ l0 _ _ y137 t142 t143 _ ?side1 ?side2 ?side3 ?side4 A23.out).mono ?_); (case side1 => repeat (first | exact (Kd.V_reads' HO0.out).2.2 | (with_reducible refine Kd.C_alloc ?_ _) | (with_reducible refine Kd.C_drewN ?_ _) | (with_reducible refine Kd.C_drew ?_))); (case side2 => exact (Kd.V_reads' HO0.out).2.1); (case side3 => repeat (first | exact (Kd.V_reads' HO141.out).2.2 | (with_reducible refine Kd.C_alloc ?_ _) | (with_reducible refine Kd.C_drewN ?_ _) | (with_reducible refine Kd.C_drew ?_))); (case side4 => exact (Kd.V_reads' HO141.out).2.1); rintro e w32 ⟨rfl, hb⟩; refine ⟨_, rfl, ?_⟩; have n0_ := Aside0.mk (Kd.V_below (by (with_reducible repeat (first | apply Kd.V_alloc | apply Kd.V_drewN | apply Kd.V_drew)); exact HO0.out) hb); have n1_ := Aside0.mk (Kd.V_below (by (with_reducible repeat (first | apply Kd.V_alloc | apply Kd.V_drewN | apply Kd.V_drew)); exact HO1.out) hb); have n2_ := Aside0.mk (Kd.R_below (by (with_reducible repeat (first | apply Kd.R_alloc | apply Kd.R_drewN | apply Kd.R_drew)); exact HO132.out) hb); have n3_ := Aside0.mk (Kd.N_below (by (with_reducible repeat (first | apply Kd.N_alloc | apply Kd.N_drewN | apply Kd.N_drew)); exact HO135.out) hb); have n4_ := Aside0.mk (Kd.V_below (by (with_reducible repeat (first | apply Kd.V_alloc | apply Kd.V_drewN | apply Kd.V_drew)); exact HO141.out) hb); have n5_ := Aside0.mk (below_step (by repeat (first | (with_reducible first | exact HB.out | apply below_alloc | apply pw_below_drewN | apply below_drew1) | exact HB.out)) hb); clear HO0; clear HO1; clear HO132; clear HO135; clear HO141; clear HB; have HO0 := n0_; have HO1 := n1_; have HO132 := n2_; have HO135 := n3_; have HO141 := n4_; have HB := n5_; clear n0_ n1_ n2_ n3_ n4_ n5_; (try clear hb); (try clear hb2); (try clear hk); (try clear hi)) | ((with_reducible refine gate_callee (f := 20) rfl ?_); refine goesL_ (some 54) rfl rfl Try.func20 (by kernel_rfl) rfl #[.slice A0 l0.length c0, .slice none 0 0] rfl (by (try simp only [List.map_toArray, List.map_cons, List.map_nil]); first | done | rfl | (simp only [List.length_drop, List.length_take]; rfl)) ?_; (refine (ends_Count.calls k _ _ l0 _ _ ([] : List Int) t144 t145 _ ?side1 ?side2 ?side3 ?side4 A24.out).mono ?_); (case side1 => repeat (first | exact (Kd.V_reads' HO0.out).2.2 | (with_reducible refine Kd.C_alloc ?_ _) | (with_reducible refine Kd.C_drewN ?_ _) | (with_reducible refine Kd.C_drew ?_))); (case side2 => exact (Kd.V_reads' HO0.out).2.1); (case side3 => exact Kd.C_nil _ _); (case side4 => exact Nat.le_refl _); rintro e w33 ⟨rfl, hb⟩; refine ⟨_, rfl, ?_⟩; have n0_ := Aside0.mk (Kd.V_below (by (with_reducible repeat (first | apply Kd.V_alloc | apply Kd.V_drewN | apply Kd.V_drew)); exact HO0.out) hb); have n1_ := Aside0.mk (Kd.V_below (by (with_reducible repeat (first | apply Kd.V_alloc | apply Kd.V_drewN | apply Kd.V_drew)); exact HO1.out) hb); have n2_ := Aside0.mk (Kd.R_below (by (with_reducible repeat (first | apply Kd.R_alloc | apply Kd.R_drewN | apply Kd.R_drew)); exact HO132.out) hb); have n3_ := Aside0.mk (Kd.N_below (by (with_reducible repeat (first | apply Kd.N_alloc | apply Kd.N_drewN | apply Kd.N_drew)); exact HO135.out) hb); have n4_ := Aside0.mk (Kd.V_below (by (with_reducible repeat (first | apply Kd.V_alloc | apply Kd.V_drewN | apply Kd.V_drew)); exact HO141.out) hb); have n5_ := Aside0.mk (below_step (by repeat (first | (with_reducible first | exact HB.out | apply below_alloc | apply pw_below_drewN | apply below_drew1) | exact HB.out)) hb); clear HO0; clear HO1; clear HO132; clear HO135; clear HO141; clear HB; have HO0 := n0_; have HO1 := n1_; have HO132 := n2_; have HO135 := n3_; have HO141 := n4_; have HB := n5_; clear n0_ n1_ n2_ n3_ n4_ n5_; (try clear hb); (try clear hb2); (try clear hk); (try clear hi)))
          (try simp only [Act.put, List.setIfInBounds_toArray, List.set_cons_zero, List.set_cons_succ])
          go_cut [6] (fun v6 wc => ∃ (kq : Nat) (x6_24 : Bool), v6 = .bool x6_24 ∧ Aside0 (coppicerkeep_EndsFew.j0 kq x6_24 = some r) ∧ Aside0 (kq ≤ k) ∧ Aside0 (Below w.heap.size w wc))
          case first =>
            have H := HC25.out
            clear HC25
            by_cases c34 : t128 = 0
            · rw [if_pos c34] at H
              have c34b0 : (t128 == 0) = true := beq_iff_eq.mpr c34
              have c34b1 : (t128 != 0) = false := bne_eq_false_iff_eq.mpr c34
              clear c34
              (first | rw [c34b0] | (simp only [i64_w, i32_w]; rw [c34b0]) | skip)
              by_cases c35 : t130 = 0
              · rw [if_pos c35] at H
                have c35b0 : (t130 == 0) = true := beq_iff_eq.mpr c35
                have c35b1 : (t130 != 0) = false := bne_eq_false_iff_eq.mpr c35
                clear c35
                by_cases c36 : t143 = 0
                · rw [if_pos c36] at H
                  have c36b0 : (t143 == 0) = true := beq_iff_eq.mpr c36
                  have c36b1 : (t143 != 0) = false := bne_eq_false_iff_eq.mpr c36
                  clear c36
                  by_cases c37 : t145 = 0
                  · rw [if_pos c37] at H
                    have c37b0 : (t145 == 0) = true := beq_iff_eq.mpr c37
                    have c37b1 : (t145 != 0) = false := bne_eq_false_iff_eq.mpr c37
                    clear c37
                    by_cases c38 : t127 = (t129.length : Int)
                    · rw [if_pos c38] at H
                      have c38b0 : (t127 == (t129.length : Int)) = true := beq_iff_eq.mpr c38
                      have c38b1 : (t127 != (t129.length : Int)) = false := bne_eq_false_iff_eq.mpr c38
                      clear c38
                      by_cases c39 : t142 ≥ t127
                      · rw [if_pos c39] at H
                        have c39b0 : decide (t127 ≤ t142) = true := decide_eq_true c39
                        clear c39
                        have H' := Aside0.mk H
                        clear H
                        obtain ⟨Ao40, co40, eo40⟩ := Kd.R_slice HO132.out
                        subst eo40
                        go_wp2
                        first | go_meet | ((simp only [← hji20]); go_meet)
                        case rel => exact ⟨_, ((t144 == (wrap64 ((l0.length : Int) + 1)))), (by first | rfl | (simp; done) | (simp [*]; done)), (by first | exact H' | ((simp only [hji20]); exact H') | (have h_ := H'.out; simp only [← hji20] at h_ ⊢; exact ⟨h_⟩)), ⟨by first | omega | exact Nat.le_refl _⟩, ⟨by repeat (first | (with_reducible first | exact HB.out | apply below_alloc | apply pw_below_drewN | apply below_drew1) | exact HB.out)⟩⟩
                      · rw [if_neg c39] at H
                        have c39b0 : decide (t127 ≤ t142) = false := decide_eq_false c39
                        clear c39
                        have H' := Aside0.mk H
                        clear H
                        obtain ⟨Ao41, co41, eo41⟩ := Kd.R_slice HO132.out
                        subst eo41
                        go_wp2
                        first | go_meet | ((simp only [← hji20]); go_meet)
                        case rel => exact ⟨_, (false), (by first | rfl | (simp; done) | (simp [*]; done)), (by first | exact H' | ((simp only [hji20]); exact H') | (have h_ := H'.out; simp only [← hji20] at h_ ⊢; exact ⟨h_⟩)), ⟨by first | omega | exact Nat.le_refl _⟩, ⟨by repeat (first | (with_reducible first | exact HB.out | apply below_alloc | apply pw_below_drewN | apply below_drew1) | exact HB.out)⟩⟩
                    · rw [if_neg c38] at H
                      have c38b0 : (t127 == (t129.length : Int)) = false := beq_eq_false_iff_ne.mpr c38
                      have c38b1 : (t127 != (t129.length : Int)) = true := bne_iff_ne.mpr c38
                      have H' := Aside0.mk H
                      clear H
                      obtain ⟨Ao42, co42, eo42⟩ := Kd.R_slice HO132.out
                      subst eo42
                      go_wp2
                      first | go_meet | ((simp only [← hji20]); go_meet)
                      case rel => exact ⟨_, (false), (by first | rfl | (simp; done) | (simp [*]; done)), (by first | exact H' | ((simp only [hji20]); exact H') | (have h_ := H'.out; simp only [← hji20] at h_ ⊢; exact ⟨h_⟩)), ⟨by first | omega | exact Nat.le_refl _⟩, ⟨by repeat (first | (with_reducible first | exact HB.out | apply below_alloc | apply pw_below_drewN | apply below_drew1) | exact HB.out)⟩⟩
                  · rw [if_neg c37] at H
                    have c37b0 : (t145 == 0) = false := beq_eq_false_iff_ne.mpr c37
                    have c37b1 : (t145 != 0) = true := bne_iff_ne.mpr c37
                    have H' := Aside0.mk H
                    clear H
                    go_wp2
                    first | go_meet | ((simp only [← hji20]); go_meet)
                    case rel => exact ⟨_, (false), (by first | rfl | (simp; done) | (simp [*]; done)), (by first | exact H' | ((simp only [hji20]); exact H') | (have h_ := H'.out; simp only [← hji20] at h_ ⊢; exact ⟨h_⟩)), ⟨by first | omega | exact Nat.le_refl _⟩, ⟨by repeat (first | (with_reducible first | exact HB.out | apply below_alloc | apply pw_below_drewN | apply below_drew1) | exact HB.out)⟩⟩
                · rw [if_neg c36] at H
                  have c36b0 : (t143 == 0) = false := beq_eq_false_iff_ne.mpr c36
                  have c36b1 : (t143 != 0) = true := bne_iff_ne.mpr c36
                  have H' := Aside0.mk H
                  clear H
                  go_wp2
                  first | go_meet | ((simp only [← hji20]); go_meet)
                  case rel => exact ⟨_, (false), (by first | rfl | (simp; done) | (simp [*]; done)), (by first | exact H' | ((simp only [hji20]); exact H') | (have h_ := H'.out; simp only [← hji20] at h_ ⊢; exact ⟨h_⟩)), ⟨by first | omega | exact Nat.le_refl _⟩, ⟨by repeat (first | (with_reducible first | exact HB.out | apply below_alloc | apply pw_below_drewN | apply below_drew1) | exact HB.out)⟩⟩
              · rw [if_neg c35] at H
                have c35b0 : (t130 == 0) = false := beq_eq_false_iff_ne.mpr c35
                have c35b1 : (t130 != 0) = true := bne_iff_ne.mpr c35
                have H' := Aside0.mk H
                clear H
                go_wp2
                first | go_meet | ((simp only [← hji20]); go_meet)
                case rel => exact ⟨_, (false), (by first | rfl | (simp; done) | (simp [*]; done)), (by first | exact H' | ((simp only [hji20]); exact H') | (have h_ := H'.out; simp only [← hji20] at h_ ⊢; exact ⟨h_⟩)), ⟨by first | omega | exact Nat.le_refl _⟩, ⟨by repeat (first | (with_reducible first | exact HB.out | apply below_alloc | apply pw_below_drewN | apply below_drew1) | exact HB.out)⟩⟩
            · rw [if_neg c34] at H
              have c34b0 : (t128 == 0) = false := beq_eq_false_iff_ne.mpr c34
              have c34b1 : (t128 != 0) = true := bne_iff_ne.mpr c34
              (first | rw [c34b0] | (simp only [i64_w, i32_w]; rw [c34b0]) | skip)
              have H' := Aside0.mk H
              clear H
              go_wp2
              first | go_meet | ((simp only [← hji20]); go_meet)
              case rel => exact ⟨_, (false), (by first | rfl | (simp; done) | (simp [*]; done)), (by first | exact H' | ((simp only [hji20]); exact H') | (have h_ := H'.out; simp only [← hji20] at h_ ⊢; exact ⟨h_⟩)), ⟨by first | omega | exact Nat.le_refl _⟩, ⟨by repeat (first | (with_reducible first | exact HB.out | apply below_alloc | apply pw_below_drewN | apply below_drew1) | exact HB.out)⟩⟩
          case rest =>
            clear HC25
            try clear c1
            try clear c2
            try clear p2
            try clear c3
            try clear q3
            try clear c6
            try clear p6
            try clear c7
            try clear c8
            try clear c8b0
            try clear c8b1
            try clear c19
            try clear c19b0
            try clear c19b1
            try clear c20
            try clear c21
            try clear c21b0
            try clear c21b1
            try clear c22
            try clear c22b0
            try clear c22b1
            try clear q31
            try clear c34
            try clear c34b0
            try clear c34b1
            try clear c35
            try clear c35b0
            try clear c35b1
            try clear c36
            try clear c36b0
            try clear c36b1
            try clear c37
            try clear c37b0
            try clear c37b1
            try clear c38
            try clear c38b0
            try clear c38b1
            try clear c39
            try clear c39b0
            try clear q31
            obtain ⟨kq, x6_24, rfl, HA, HJ24, HB⟩ := hcut
            cases kq with
            | zero => exact absurd HA.out (by simp [coppicerkeep_EndsFew.j0])
            | succ kj24 =>
              have H := HA.out
              clear HA
              simp only [coppicerkeep_EndsFew.j0] at H
              obtain rfl := Option.some.inj H
              go_wp2
              go_ret
              exact ⟨by first | rfl | (simp [errW_none, errW_some] <;> rfl) | (simp only [← hji20]; first | rfl | (simp [errW_none, errW_some] <;> rfl)) | (simp [*, errW_none, errW_some] <;> rfl), by repeat (first | (with_reducible first | exact HB.out | apply below_alloc | apply pw_below_drewN | apply below_drew1) | exact HB.out)⟩
        · rw [if_neg c22] at H
          exact absurd H (by simp)
      · rw [if_neg c21] at H
        exact absurd H (by simp)

/-- THE ONE PURE STATEMENT of coppicerkeep_EndsFew: yours. -/
def coppicerkeep_EndsFew.Pure : Prop := ∀ (l0 : List Int) (l1 : List Int) (a2 : Int), (l0.length ≤ 9223372036854775807 ∧ l0.length * 1 ≤ 140737488351232 ∧ ∀ y_ ∈ l0, (Lit.int .u8 y_).wf = true) → (l1.length ≤ 9223372036854775807 ∧ l1.length * 1 ≤ 140737488351232 ∧ ∀ y_ ∈ l1, (Lit.int .u8 y_).wf = true) → ((Lit.int .u8 a2).wf = true) → ∃ k, coppicerkeep_EndsFew.f k l0 l1 a2 = some true
theorem coppicerkeep_EndsFew.walk (P : coppicerkeep_EndsFew.Pure) (A0 : Option Addr) (l0 : List Int) (c0 : Nat) (A1 : Option Addr) (l1 : List Int) (c1 : Nat) (a2 : Int) (w : World) (hr0 : Kd.C (Kd.int .u8) w A0 l0.length l0) (hc0 : l0.length ≤ c0) (w0 : l0.length ≤ 9223372036854775807 ∧ l0.length * 1 ≤ 140737488351232 ∧ ∀ y_ ∈ l0, (Lit.int .u8 y_).wf = true) (hr1 : Kd.C (Kd.int .u8) w A1 l1.length l1) (hc1 : l1.length ≤ c1) (w1 : l1.length ≤ 9223372036854775807 ∧ l1.length * 1 ≤ 140737488351232 ∧ ∀ y_ ∈ l1, (Lit.int .u8 y_).wf = true) (w2 : (Lit.int .u8 a2).wf = true) :
    Calls Try.prog 6 #[.slice A0 l0.length c0, .slice A1 l1.length c1, .int .u8 a2] w fun e w' => e = .returned (.bool true) ∧ Below w.heap.size w w' := by
  obtain ⟨k, h⟩ := P l0 l1 a2 w0 w1 w2
  refine (coppicerkeep_EndsFew.calls k _ _ _ _ _ _ _ _ _ true w (Kd.C_V (Kd.heap_int .u8) hr0 hc0) (Kd.C_V (Kd.heap_int .u8) hr1 hc1) h).mono ?_
  rintro e w' ⟨rfl, hd⟩
  exact ⟨rfl, hd⟩

end Go.Proofs.Ytkalcljgcigdgaa.GE
