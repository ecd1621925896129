-- Written by ext.py, a program of this session.
import Derived.Test.YtkjhddjenkocjaaGE0
import Derived.Test.YtkjhddjenkocjaaGE1
namespace Go.Proofs.Ytkjhddjenkocjaa.GE
open Go.RowKit Go.Proofs.YtkjhddjenkocjaaW.PrintWords Go.Proofs.YtkjhddjenkocjaaW.PrintLast Go.Proofs.YtkjhddjenkocjaaW.PrintMore
attribute [local go_sem] max2_int min2_int max_two min_two max_three min_three max_four min_four cellIs_set   -- for this text's walks alone
set_option linter.unusedVariables false
set_option linter.unusedSimpArgs false

/-! ### edit_Shared: function 39 -/
mutual
def edit_Shared.j0 : Nat → List Int → List Int → Bool → Option (List Int × Int)
  | 0, _, _, _ => none
  | k + 1, x0, x1, x19 => if x19 = true then (some (([] : List Int), 1)) else (if 0 ≤ (wrap64 ((x1.length : Int) + 1)) then (if (wrap64 ((x1.length : Int) + 1) : Int).toNat ≤ 11728124029610 then (edit_Shared.l0 k x0 x1 (List.replicate (wrap64 ((x1.length : Int) + 1) : Int).toNat []) (wrap64 ((x0.length : Int) - 1))) else (none)) else (none))
def edit_Shared.l0 : Nat → List Int → List Int → List (List Int) → Int → Option (List Int × Int)
  | 0, _, _, _, _ => none
  | k + 1, x0, x1, x6, x8 => if x8 ≥ 0 then (if 0 ≤ (wrap64 ((x1.length : Int) + 1)) then (if (wrap64 ((x1.length : Int) + 1) : Int).toNat ≤ 11728124029610 then (edit_Shared.l1 k x0 x1 x6 x8 (List.replicate (wrap64 ((x1.length : Int) + 1) : Int).toNat []) (wrap64 ((x1.length : Int) - 1))) else (none)) else (none)) else (if 0 < (x6.length : Int) then ((bytes_Clone.f (rd_L1 x6 0)).bind fun t107 => (some (t107, 0))) else (none))
def edit_Shared.l1 : Nat → List Int → List Int → List (List Int) → Int → List (List Int) → Int → Option (List Int × Int)
  | 0, _, _, _, _, _, _ => none
  | k + 1, x0, x1, x6, x8, x9, x10 => if x10 ≥ 0 then (if 0 ≤ (wrap64 (x10 + 1)) then (if (wrap64 (x10 + 1)) < (x9.length : Int) then (if 0 ≤ x10 then (if x10 < (x9.length : Int) then ((some (x9.set (x10 : Int).toNat (rd_L1 x9 (wrap64 (x10 + 1))) : List (List Int))).bind fun y114 => (if x10 < (x6.length : Int) then ((edit_Shared_1.f (rd_L1 x6 x10) (rd_L1 y114 x10)).bind fun t117 => (if t117 = true then (edit_Shared.j3 k x0 x1 x6 x8 (y114.set (x10 : Int).toNat (rd_L1 x6 x10)) x10) else (edit_Shared.j3 k x0 x1 x6 x8 y114 x10))) else (none))) else (none)) else (none)) else (none)) else (none)) else (edit_Shared.l0 k x0 x1 x9 (wrap64 (x8 - 1)))
def edit_Shared.j3 : Nat → List Int → List Int → List (List Int) → Int → List (List Int) → Int → Option (List Int × Int)
  | 0, _, _, _, _, _, _ => none
  | k + 1, x0, x1, x6, x8, x9, x10 => if 0 ≤ x8 then (if x8 < (x0.length : Int) then (if 0 ≤ x10 then (if x10 < (x1.length : Int) then (if (rd x0 x8) = (rd x1 x10) then ((some (([rd x0 x8] : List Int) : List Int)).bind fun y123 => (if 0 ≤ (wrap64 (x10 + 1)) then (if (wrap64 (x10 + 1)) < (x6.length : Int) then (if y123.length + (rd_L1 x6 (wrap64 (x10 + 1))).length < 140737488355328 then ((some (y123 ++ (rd_L1 x6 (wrap64 (x10 + 1))) : List Int)).bind fun y127 => (if x10 < (x9.length : Int) then ((edit_Shared_1.f y127 (rd_L1 x9 x10)).bind fun t131 => (if t131 = true then (edit_Shared.l1 k x0 x1 x6 x8 (x9.set (x10 : Int).toNat y127) (wrap64 (x10 - 1))) else (edit_Shared.l1 k x0 x1 x6 x8 x9 (wrap64 (x10 - 1))))) else (none))) else (none)) else (none)) else (none))) else (edit_Shared.l1 k x0 x1 x6 x8 x9 (wrap64 (x10 - 1)))) else (none)) else (none)) else (none)) else (none)
end
def edit_Shared.f (k : Nat) (l0 : List Int) (l1 : List Int) : Option (List Int × Int) := if (l0.length : Int) > 60 then (edit_Shared.j0 k l0 l1 true) else (edit_Shared.j0 k l0 l1 (decide ((l1.length : Int) > 60)))
theorem edit_Shared.mono_l : ∀ k, (∀ y0 y1 y2, LeO (edit_Shared.j0 k y0 y1 y2) (edit_Shared.j0 (k + 1) y0 y1 y2)) ∧ (∀ y0 y1 y2 y3, LeO (edit_Shared.l0 k y0 y1 y2 y3) (edit_Shared.l0 (k + 1) y0 y1 y2 y3)) ∧ (∀ y0 y1 y2 y3 y4 y5, LeO (edit_Shared.l1 k y0 y1 y2 y3 y4 y5) (edit_Shared.l1 (k + 1) y0 y1 y2 y3 y4 y5)) ∧ (∀ y0 y1 y2 y3 y4 y5, LeO (edit_Shared.j3 k y0 y1 y2 y3 y4 y5) (edit_Shared.j3 (k + 1) y0 y1 y2 y3 y4 y5))
  | 0 => ⟨fun _ _ _ r h => by simp [edit_Shared.j0] at h, fun _ _ _ _ r h => by simp [edit_Shared.l0] at h, fun _ _ _ _ _ _ r h => by simp [edit_Shared.l1] at h, fun _ _ _ _ _ _ r h => by simp [edit_Shared.j3] at h⟩
  | k + 1 => by
    obtain ⟨ih0, ih1, ih2, ih3⟩ := edit_Shared.mono_l k
    refine ⟨?_, ?_, ?_, ?_⟩
    · intro y0 y1 y2
      unfold edit_Shared.j0
      repeat' first
      | (with_reducible exact ih0 _ _ _)
      | (with_reducible exact ih1 _ _ _ _)
      | (with_reducible exact ih2 _ _ _ _ _ _)
      | (with_reducible exact ih3 _ _ _ _ _ _)
      | (with_reducible exact LeO.refl _)
      | (with_reducible exact LeO.none _)
      | (with_reducible refine LeO.ite ?_ ?_)
      | (with_reducible refine LeO.bind ?_ (fun _ => ?_))
      | exact ih0 _ _ _
      | exact ih1 _ _ _ _
      | exact ih2 _ _ _ _ _ _
      | exact ih3 _ _ _ _ _ _
      | exact LeO.none _
      | refine LeO.ite ?_ ?_
      | refine LeO.bind ?_ (fun _ => ?_)
    · intro y0 y1 y2 y3
      unfold edit_Shared.l0
      repeat' first
      | (with_reducible exact ih0 _ _ _)
      | (with_reducible exact ih1 _ _ _ _)
      | (with_reducible exact ih2 _ _ _ _ _ _)
      | (with_reducible exact ih3 _ _ _ _ _ _)
      | (with_reducible exact LeO.refl _)
      | (with_reducible exact LeO.none _)
      | (with_reducible refine LeO.ite ?_ ?_)
      | (with_reducible refine LeO.bind ?_ (fun _ => ?_))
      | exact ih0 _ _ _
      | exact ih1 _ _ _ _
      | exact ih2 _ _ _ _ _ _
      | exact ih3 _ _ _ _ _ _
      | exact LeO.none _
      | refine LeO.ite ?_ ?_
      | refine LeO.bind ?_ (fun _ => ?_)
    · intro y0 y1 y2 y3 y4 y5
      unfold edit_Shared.l1
      repeat' first
      | (with_reducible exact ih0 _ _ _)
      | (with_reducible exact ih1 _ _ _ _)
      | (with_reducible exact ih2 _ _ _ _ _ _)
      | (with_reducible exact ih3 _ _ _ _ _ _)
      | (with_reducible exact LeO.refl _)
      | (with_reducible exact LeO.none _)
      | (with_reducible refine LeO.ite ?_ ?_)
      | (with_reducible refine LeO.bind ?_ (fun _ => ?_))
      | exact ih0 _ _ _
      | exact ih1 _ _ _ _
      | exact ih2 _ _ _ _ _ _
      | exact ih3 _ _ _ _ _ _
      | exact LeO.none _
      | refine LeO.ite ?_ ?_
      | refine LeO.bind ?_ (fun _ => ?_)
    · intro y0 y1 y2 y3 y4 y5
      unfold edit_Shared.j3
      repeat' first
      | (with_reducible exact ih0 _ _ _)
      | (with_reducible exact ih1 _ _ _ _)
      | (with_reducible exact ih2 _ _ _ _ _ _)
      | (with_reducible exact ih3 _ _ _ _ _ _)
      | (with_reducible exact LeO.refl _)
      | (with_reducible exact LeO.none _)
      | (with_reducible refine LeO.ite ?_ ?_)
      | (with_reducible refine LeO.bind ?_ (fun _ => ?_))
      | exact ih0 _ _ _
      | exact ih1 _ _ _ _
      | exact ih2 _ _ _ _ _ _
      | exact ih3 _ _ _ _ _ _
      | exact LeO.none _
      | refine LeO.ite ?_ ?_
      | refine LeO.bind ?_ (fun _ => ?_)
theorem edit_Shared.mono : ∀ a0 a1 k, LeO (edit_Shared.f k a0 a1) (edit_Shared.f (k + 1) a0 a1) := by
  intro a0 a1 k
  obtain ⟨ih0, ih1, ih2, ih3⟩ := edit_Shared.mono_l k
  unfold edit_Shared.f
  repeat' first
      | (with_reducible exact ih0 _ _ _)
      | (with_reducible exact ih1 _ _ _ _)
      | (with_reducible exact ih2 _ _ _ _ _ _)
      | (with_reducible exact ih3 _ _ _ _ _ _)
      | (with_reducible exact LeO.refl _)
      | (with_reducible exact LeO.none _)
      | (with_reducible refine LeO.ite ?_ ?_)
      | (with_reducible refine LeO.bind ?_ (fun _ => ?_))
      | exact ih0 _ _ _
      | exact ih1 _ _ _ _
      | exact ih2 _ _ _ _ _ _
      | exact ih3 _ _ _ _ _ _
      | exact LeO.none _
      | refine LeO.ite ?_ ?_
      | refine LeO.bind ?_ (fun _ => ?_)
def edit_Shared.T13 : Bool × List (List Nat × List Nat) := (true, [([], []), ([], []), ([], []), ([1, 2], [1, 2]), ([3], [3]), ([], []), ([], []), ([5, 6], [5, 6]), ([7], [7]), ([0, 4, 8], [0, 4, 8])])
def edit_Shared.B13 : List Nat := [0, 0, 0, 6, 14, 0, 0, 96, 224, 511]
theorem edit_Shared.tab13 : rtab .any (opsOf Try.f39 13) = edit_Shared.T13 := by kernel_rfl
theorem edit_Shared.bits13 : waitsOk edit_Shared.T13.2 edit_Shared.B13 = true := by kernel_rfl
def edit_Shared.T15 : Bool × List (List Nat × List Nat) := (true, [([], []), ([], []), ([0, 1], [0, 1]), ([2], [2]), ([], []), ([], []), ([4, 5], [4, 5]), ([6], [6]), ([3, 7], [3, 7])])
def edit_Shared.B15 : List Nat := [0, 0, 3, 7, 0, 0, 48, 112, 255]
theorem edit_Shared.tab15 : rtab .any (opsOf Try.f39 15) = edit_Shared.T15 := by kernel_rfl
theorem edit_Shared.bits15 : waitsOk edit_Shared.T15.2 edit_Shared.B15 = true := by kernel_rfl
def edit_Shared.T16 : Bool × List (List Nat × List Nat) := (true, [([], []), ([], []), ([0, 1], [0, 1]), ([2], [2]), ([3], [3]), ([], []), ([], []), ([6], [6]), ([5, 7], [5, 7]), ([8], [8]), ([4, 9], [4, 9]), ([10, 10, 0, 1, 2, 3, 4, 5, 6, 7, 8, 9, 10], [10])])
def edit_Shared.B16 : List Nat := [0, 0, 3, 7, 15, 0, 0, 64, 224, 480, 1023, 2047]
theorem edit_Shared.tab16 : rtab .any (opsOf Try.f39 16) = edit_Shared.T16 := by kernel_rfl
theorem edit_Shared.bits16 : waitsOk edit_Shared.T16.2 edit_Shared.B16 = true := by kernel_rfl
set_option maxHeartbeats 8000000 in
set_option maxRecDepth 100000 in
theorem edit_Shared.calls (k : Nat) (A0 : Option Addr) (c0 : Nat) (l0 : List Int) (A1 : Option Addr) (c1 : Nat) (l1 : List Int) (r1 : List Int) (r2 : Int) (w : World) (hr0 : Kd.C (Kd.int .u8) w A0 l0.length l0) (hc0 : l0.length ≤ c0) (hr1 : Kd.C (Kd.int .u8) w A1 l1.length l1) (hc1 : l1.length ≤ c1) (h : edit_Shared.f k l0 l1 = some (r1, r2)) :
    Calls Try.prog 39 #[.slice A0 l0.length c0, .slice A1 l1.length c1] w fun e w' => ∃ v0_ : Value, e = .returned (.tuple #[v0_, .int .i64 r2]) ∧ Kd.R (Kd.int .u8) 5 w' w.heap.size (fun _ => True) v0_ r1 ∧ Below w.heap.size w w' := by
  have HR0 := Aside0.mk hr0
  have HC0 := Aside0.mk hc0
  clear hr0 hc0
  have HR1 := Aside0.mk hr1
  have HC1 := Aside0.mk hc1
  clear hr1 hc1
  have HB := Aside0.mk (Below.refl w.heap.size w)
  have H : (if (l0.length : Int) > 60 then (edit_Shared.j0 k l0 l1 true) else (edit_Shared.j0 k l0 l1 (decide ((l1.length : Int) > 60)))) = some (r1, r2) := h
  clear h
  have HC3 := Aside0.mk H
  clear H
  go_enter Try.func39, Try.ntmps39
  go_upto_region 1 with (fail)
  go_cut [19] (fun v19 wc => ∃ (kq : Nat) (x19_2 : Bool), v19 = .bool x19_2 ∧ Aside0 (edit_Shared.j0 kq l0 l1 x19_2 = some (r1, r2)) ∧ Aside0 (kq ≤ k) ∧ Aside0 (Below w.heap.size w wc))
  case first =>
    have H := HC3.out
    clear HC3
    by_cases c4 : (l0.length : Int) > 60
    · rw [if_pos c4] at H
      have c4b0 : decide (60 < (l0.length : Int)) = true := decide_eq_true c4
      have c4b1 : decide (60 < l0.length) = true := decide_eq_true (by omega)
      clear c4
      (first | rw [c4b0] | (simp only [i64_w, i32_w]; rw [c4b0]) | skip)
      have H' := Aside0.mk H
      clear H
      go_wp2
      go_meet
      case rel => exact ⟨_, (true), (by first | rfl | (simp; done) | (simp [*]; done)), H', ⟨by first | omega | exact Nat.le_refl _⟩, ⟨by repeat (first | (with_reducible first | exact HB.out | apply below_alloc | apply pw_below_drewN | apply below_drew1) | exact HB.out)⟩⟩
    · rw [if_neg c4] at H
      have c4b0 : decide (60 < (l0.length : Int)) = false := decide_eq_false c4
      have c4b1 : decide (60 < l0.length) = false := decide_eq_false (by omega)
      clear c4
      (first | rw [c4b0] | (simp only [i64_w, i32_w]; rw [c4b0]) | skip)
      have H' := Aside0.mk H
      clear H
      go_wp2
      go_meet
      case rel => exact ⟨_, (decide ((l1.length : Int) > 60)), (by first | rfl | (simp; done) | (simp [*]; done)), H', ⟨by first | omega | exact Nat.le_refl _⟩, ⟨by repeat (first | (with_reducible first | exact HB.out | apply below_alloc | apply pw_below_drewN | apply below_drew1) | exact HB.out)⟩⟩
  case rest =>
    clear HC3
    try clear c1
    try clear p2
    try clear c3
    try clear c4
    try clear c4b0
    try clear c4b1
    obtain ⟨kq, x19_2, rfl, HA, HJ2, HB⟩ := hcut
    cases kq with
    | zero => exact absurd HA.out (by simp [edit_Shared.j0])
    | succ kj2 =>
      have H := HA.out
      clear HA
      simp only [edit_Shared.j0] at H
      by_cases c5 : x19_2 = true
      · subst c5
        have H1 : (some (([] : List Int), 1)) = some (r1, r2) := by rw [if_pos rfl] at H; exact H
        clear H
        have H := H1
        clear H1
        simp only [Option.some.injEq, Prod.mk.injEq] at H
        obtain ⟨rfl, rfl⟩ := H
        go_wp2
        go_ret2
        exact ⟨_, by first | rfl | (simp [errW_none, errW_some] <;> rfl) | (simp [*, errW_none, errW_some] <;> rfl), by first | exact Kd.R_nil _ _ _ _ _ | exact Kd.N_nil _ _ _ _ _ | exact Kd.V_nil _ _ _ _ _ | exact Kd.Q_nil _ _ _ _ _ | exact Kd.S_nil _ _ _ _ _, by repeat (first | (with_reducible first | exact HB.out | apply below_alloc | apply pw_below_drewN | apply below_drew1) | exact HB.out)⟩
      · replace c5 := Bool.eq_false_iff.mpr c5
        subst c5
        have H1 : (if 0 ≤ (wrap64 ((l1.length : Int) + 1)) then (if (wrap64 ((l1.length : Int) + 1) : Int).toNat ≤ 11728124029610 then (edit_Shared.l0 kj2 l0 l1 (List.replicate (wrap64 ((l1.length : Int) + 1) : Int).toNat []) (wrap64 ((l0.length : Int) - 1))) else (none)) else (none)) = some (r1, r2) := by rw [if_neg (show ¬ (false = true) by decide)] at H; exact H
        clear H
        have H := H1
        clear H1
        obtain ⟨ji6, hji6⟩ : ∃ j_ : Int, (wrap64 ((l1.length : Int) + 1)) = j_ := ⟨_, rfl⟩
        replace H : (if 0 ≤ (ji6) then (if (ji6 : Int).toNat ≤ 11728124029610 then (edit_Shared.l0 kj2 l0 l1 (List.replicate (ji6 : Int).toNat []) (wrap64 ((l0.length : Int) - 1))) else (none)) else (none)) = some (r1, r2) := by first | (rw [hji6] at H; exact H) | (simp only [hji6] at H ⊢; exact H)
        have hji6w : (IntKind.i64.wrap ((l1.length : Int) + 1)) = ji6 := (i64_w _).trans hji6
        by_cases c7 : 0 ≤ (ji6)
        · rw [if_pos c7] at H
          have c7b0 := eq_true c7
          have c7b1 : decide (0 ≤ (ji6)) = true := decide_eq_true c7
          clear c7
          by_cases c8 : (ji6 : Int).toNat ≤ 11728124029610
          · rw [if_pos c8] at H
            have c8b0 := eq_true c8
            have c8b1 : decide ((ji6 : Int).toNat ≤ 11728124029610) = true := decide_eq_true c8
            clear c8
            obtain ⟨y103, hy103⟩ : ∃ y_ : List (List Int), y_ = (List.replicate (ji6 : Int).toNat []) := ⟨_, rfl⟩
            replace H : (edit_Shared.l0 kj2 l0 l1 y103 (wrap64 ((l0.length : Int) - 1))) = some (r1, r2) := by first | (rw [hy103]; with_reducible exact H) | (have H2_ := (Option.bind_some _ _).symm.trans H; rw [hy103]; with_reducible exact H2_) | (have H2_ := (Option.bind_some _ _).symm.trans H; with_reducible exact H2_) | with_reducible exact H | (rw [hy103]; exact H) | exact H
            have Ny103 := Aside0.mk hy103
            clear hy103
            have H' := Aside0.mk H
            clear H
            go_wp2_with (first | ((with_reducible refine gate_dst (N := 23) rfl ?_); (try (refine gate_guard (by rfl) ?_; dsimp only)); refine Kd.N_make (Kd.slice 5 (Kd.int .u8)) _ 56 rfl (N' := 23) rfl 66 _ _ rfl ji6 rfl rfl Try.underlying66 (.slice none 0 0) 24 info56 rfl (by decide) (by omega) [] (ok := fun k_ => wc.heap.size ≤ k_) (okp := fun _ => False) (Kd.FK_slice_mk (Nat.le_refl _) (Kd.F_nil _ _ _)) (fun _ hk => hk.elim) (Nat.le_refl _) (of_decide_eq_true (by first | (with_reducible assumption) | assumption)) (Nat.le_trans (Nat.mul_le_mul_right _ (of_decide_eq_true (by first | (with_reducible assumption) | assumption) : ji6.toNat ≤ 11728124029610)) (by omega)) (Below.refl _ _) (Nat.le_refl _) ?_; intro v104 w9 ho10 hb hg_ hnew_; clear hg_ hnew_; (first | rw [← Ny103.out] at ho10 | (simp only [Int.reduceToNat] at ho10; rw [← Ny103.out] at ho10)); have n0_ := Aside0.mk (Kd.N_lower (Kd.N_mono (ok' := fun k_ => True) ho10 (fun k_ hk_ => trivial)) (below_size (by repeat (first | (with_reducible first | exact HB.out | apply below_alloc | apply pw_below_drewN | apply below_drew1) | exact HB.out)))); have n1_ := Aside0.mk (below_step (by repeat (first | (with_reducible first | exact HB.out | apply below_alloc | apply pw_below_drewN | apply below_drew1) | exact HB.out)) hb); clear HB; have HO105 := n0_; have HB := n1_; clear n0_ n1_; clear hb ho10))
            go_loopg [6, 8] kj2 (fun kq v6 v8 w' => ∃ (x6_2 : List (List Int)) (x8_2 : Int), v8 = .int .i64 x8_2 ∧ Aside0 (edit_Shared.l0 kq l0 l1 x6_2 x8_2 = some (r1, r2)) ∧ Aside0 (kq ≤ kj2) ∧ Aside0 (Kd.N (Kd.slice 5 (Kd.int .u8)) 56 w' w.heap.size (fun _ => True) v6 x6_2) ∧ Aside0 (Below w.heap.size w w'))
            case atStart => exact ⟨(y103), (wrap64 ((l0.length : Int) - 1)), (by first | rfl | (simp; done) | (simp [*]; done)), H', ⟨Nat.le_refl _⟩, ⟨by (with_reducible repeat (first | apply Kd.N_alloc | apply Kd.N_drewN | apply Kd.N_drew)); exact HO105.out⟩, ⟨by repeat (first | (with_reducible first | exact HB.out | apply below_alloc | apply pw_below_drewN | apply below_drew1) | exact HB.out)⟩⟩
            case round =>
              clear H'
              try clear c1
              try clear p2
              try clear c3
              try clear c4
              try clear c4b0
              try clear c4b1
              try clear c5
              try clear p6
              try clear c7
              try clear c7b0
              try clear c7b1
              try clear c8
              try clear c8b0
              try clear c8b1
              try clear p2
              obtain ⟨x6_2, x8_2, rfl, HA, HK2, HO_6, HB⟩ := hrel
              cases gk with
              | zero => exact absurd HA.out (by simp [edit_Shared.l0])
              | succ k2 =>
                have H := HA.out
                clear HA
                simp only [edit_Shared.l0] at H
                by_cases c11 : x8_2 ≥ 0
                · rw [if_pos c11] at H
                  have c11b0 : decide (0 ≤ x8_2) = true := decide_eq_true c11
                  clear c11
                  replace H : (if 0 ≤ (ji6) then (if (ji6 : Int).toNat ≤ 11728124029610 then (edit_Shared.l1 k2 l0 l1 x6_2 x8_2 (List.replicate (ji6 : Int).toNat []) (wrap64 ((l1.length : Int) - 1))) else (none)) else (none)) = some (r1, r2) := by first | (rw [hji6] at H; exact H) | (simp only [hji6] at H ⊢; exact H)
                  by_cases c12 : 0 ≤ (ji6)
                  · rw [if_pos c12] at H
                    have c12b0 := eq_true c12
                    have c12b1 : decide (0 ≤ (ji6)) = true := decide_eq_true c12
                    clear c12
                    by_cases c13 : (ji6 : Int).toNat ≤ 11728124029610
                    · rw [if_pos c13] at H
                      have c13b0 := eq_true c13
                      have c13b1 : decide ((ji6 : Int).toNat ≤ 11728124029610) = true := decide_eq_true c13
                      clear c13
                      obtain ⟨y110, hy110⟩ : ∃ y_ : List (List Int), y_ = (List.replicate (ji6 : Int).toNat []) := ⟨_, rfl⟩
                      replace H : (edit_Shared.l1 k2 l0 l1 x6_2 x8_2 y110 (wrap64 ((l1.length : Int) - 1))) = some (r1, r2) := by first | (rw [hy110]; with_reducible exact H) | (have H2_ := (Option.bind_some _ _).symm.trans H; rw [hy110]; with_reducible exact H2_) | (have H2_ := (Option.bind_some _ _).symm.trans H; with_reducible exact H2_) | with_reducible exact H | (rw [hy110]; exact H) | exact H
                      have Ny110 := Aside0.mk hy110
                      clear hy110
                      have H' := Aside0.mk H
                      clear H
                      go_wp2_with (first | ((with_reducible refine gate_dst (N := 34) rfl ?_); (try (refine gate_guard (by rfl) ?_; dsimp only)); refine Kd.N_make (Kd.slice 5 (Kd.int .u8)) _ 56 rfl (N' := 34) rfl 66 _ _ rfl ji6 rfl rfl Try.underlying66 (.slice none 0 0) 24 info56 rfl (by decide) (by omega) [] (ok := fun k_ => wr.heap.size ≤ k_) (okp := fun _ => False) (Kd.FK_slice_mk (Nat.le_refl _) (Kd.F_nil _ _ _)) (fun _ hk => hk.elim) (Nat.le_refl _) (of_decide_eq_true (by first | (with_reducible assumption) | assumption)) (Nat.le_trans (Nat.mul_le_mul_right _ (of_decide_eq_true (by first | (with_reducible assumption) | assumption) : ji6.toNat ≤ 11728124029610)) (by omega)) (Below.refl _ _) (Nat.le_refl _) ?_; intro v111 w14 ho15 hb hg_ hnew_; clear hg_ hnew_; (first | rw [← Ny110.out] at ho15 | (simp only [Int.reduceToNat] at ho15; rw [← Ny110.out] at ho15)); have n0_ := Aside0.mk (Kd.N_elder' (by (with_reducible repeat (first | apply Kd.N_alloc | apply Kd.N_drewN | apply Kd.N_drew)); exact HO_6.out) (Kd.N_base ho15) hb); have n1_ := Aside0.mk (Kd.N_lower (Kd.N_mono (ok' := fun k_ => some k_ ≠ (u6 : Value).ownBlock) ho15 (fun k_ hk_ => (Kd.fresh' (Kd.N_lt (by (with_reducible repeat (first | apply Kd.N_alloc | apply Kd.N_drewN | apply Kd.N_drew)); exact HO_6.out)) k_ hk_))) (below_size (by repeat (first | (with_reducible first | exact HB.out | apply below_alloc | apply pw_below_drewN | apply below_drew1) | exact HB.out)))); have n2_ := Aside0.mk (below_step (by repeat (first | (with_reducible first | exact HB.out | apply below_alloc | apply pw_below_drewN | apply below_drew1) | exact HB.out)) hb); clear HO_6; clear HB; have HO_6 := n0_; have HO112 := n1_; have HB := n2_; clear n0_ n1_ n2_; clear hb ho15))
                      go_loopg [10] k2 (fun kq v10 w' => ∃ (x9_3 : List (List Int)) (x10_3 : Int), v10 = .int .i64 x10_3 ∧ Aside0 (edit_Shared.l1 kq l0 l1 x6_2 x8_2 x9_3 x10_3 = some (r1, r2)) ∧ Aside0 (kq ≤ k2) ∧ Aside0 (Kd.N (Kd.slice 5 (Kd.int .u8)) 56 w' w.heap.size (fun k_ => some k_ ≠ (v111 : Value).ownBlock) u6 x6_2) ∧ Aside0 (Kd.N (Kd.slice 5 (Kd.int .u8)) 56 w' w.heap.size (fun k_ => some k_ ≠ (u6 : Value).ownBlock) v111 x9_3) ∧ Aside0 (Below w.heap.size w w'))
                      case atStart => exact ⟨(y110), (wrap64 ((l1.length : Int) - 1)), (by first | rfl | (simp; done) | (simp [*]; done)), H', ⟨Nat.le_refl _⟩, ⟨by (with_reducible repeat (first | apply Kd.N_alloc | apply Kd.N_drewN | apply Kd.N_drew)); exact Kd.N_mono HO_6.out (fun _ hk => hk.2)⟩, ⟨by (with_reducible repeat (first | apply Kd.N_alloc | apply Kd.N_drewN | apply Kd.N_drew)); exact HO112.out⟩, ⟨by repeat (first | (with_reducible first | exact HB.out | apply below_alloc | apply pw_below_drewN | apply below_drew1) | exact HB.out)⟩⟩
                      case round =>
                        clear H'
                        try clear c1
                        try clear p2
                        try clear c3
                        try clear c4
                        try clear c4b0
                        try clear c4b1
                        try clear c5
                        try clear p6
                        try clear c7
                        try clear c7b0
                        try clear c7b1
                        try clear c8
                        try clear c8b0
                        try clear c8b1
                        try clear c11
                        try clear c11b0
                        try clear c12
                        try clear c12b0
                        try clear c12b1
                        try clear c13
                        try clear c13b0
                        try clear c13b1
                        try clear p2
                        try clear p6
                        obtain ⟨x9_3, x10_3, rfl, HA, HK3, HO_6, HO_9, HB⟩ := hrel
                        cases gk with
                        | zero => exact absurd HA.out (by simp [edit_Shared.l1])
                        | succ k3 =>
                          have H := HA.out
                          clear HA
                          simp only [edit_Shared.l1] at H
                          by_cases c16 : x10_3 ≥ 0
                          · rw [if_pos c16] at H
                            have c16b0 : decide (0 ≤ x10_3) = true := decide_eq_true c16
                            clear c16
                            obtain ⟨ji17, hji17⟩ : ∃ j_ : Int, (wrap64 (x10_3 + 1)) = j_ := ⟨_, rfl⟩
                            replace H : (if 0 ≤ (ji17) then (if (ji17) < (x9_3.length : Int) then (if 0 ≤ x10_3 then (if x10_3 < (x9_3.length : Int) then ((some (x9_3.set (x10_3 : Int).toNat (rd_L1 x9_3 (ji17)) : List (List Int))).bind fun y114 => (if x10_3 < (x6_2.length : Int) then ((edit_Shared_1.f (rd_L1 x6_2 x10_3) (rd_L1 y114 x10_3)).bind fun t117 => (if t117 = true then (edit_Shared.j3 k3 l0 l1 x6_2 x8_2 (y114.set (x10_3 : Int).toNat (rd_L1 x6_2 x10_3)) x10_3) else (edit_Shared.j3 k3 l0 l1 x6_2 x8_2 y114 x10_3))) else (none))) else (none)) else (none)) else (none)) else (none)) = some (r1, r2) := by first | (rw [hji17] at H; exact H) | (simp only [hji17] at H ⊢; exact H)
                            have hji17w : (IntKind.i64.wrap (x10_3 + 1)) = ji17 := (i64_w _).trans hji17
                            by_cases c18 : 0 ≤ (ji17)
                            · rw [if_pos c18] at H
                              have c18b0 : decide (0 ≤ (ji17)) = true := decide_eq_true c18
                              clear c18
                              by_cases c19 : (ji17) < (x9_3.length : Int)
                              · rw [if_pos c19] at H
                                have c19b0 : decide ((ji17) < (x9_3.length : Int)) = true := decide_eq_true c19
                                clear c19
                                by_cases c20 : 0 ≤ x10_3
                                · rw [if_pos c20] at H
                                  have c20b0 : decide (0 ≤ x10_3) = true := decide_eq_true c20
                                  clear c20
                                  by_cases c21 : x10_3 < (x9_3.length : Int)
                                  · rw [if_pos c21] at H
                                    have c21b0 : decide (x10_3 < (x9_3.length : Int)) = true := decide_eq_true c21
                                    clear c21
                                    obtain ⟨y114, hy114⟩ : ∃ y_ : List (List Int), y_ = (x9_3.set (x10_3 : Int).toNat (rd_L1 x9_3 (ji17))) := ⟨_, rfl⟩
                                    replace H : (if x10_3 < (x6_2.length : Int) then ((edit_Shared_1.f (rd_L1 x6_2 x10_3) (rd_L1 y114 x10_3)).bind fun t117 => (if t117 = true then (edit_Shared.j3 k3 l0 l1 x6_2 x8_2 (y114.set (x10_3 : Int).toNat (rd_L1 x6_2 x10_3)) x10_3) else (edit_Shared.j3 k3 l0 l1 x6_2 x8_2 y114 x10_3))) else (none)) = some (r1, r2) := by first | (rw [hy114]; with_reducible exact H) | (have H2_ := (Option.bind_some _ _).symm.trans H; rw [hy114]; with_reducible exact H2_) | (have H2_ := (Option.bind_some _ _).symm.trans H; with_reducible exact H2_) | with_reducible exact H | (rw [hy114]; exact H) | exact H
                                    have Ny114 := Aside0.mk hy114
                                    clear hy114
                                    by_cases c23 : x10_3 < (x6_2.length : Int)
                                    · rw [if_pos c23] at H
                                      have c23b0 : decide (x10_3 < (x6_2.length : Int)) = true := decide_eq_true c23
                                      clear c23
                                      replace H := Option.bind_eq_some_iff.mp H
                                      obtain ⟨t117, A240, H⟩ := H
                                      replace H : (if t117 = true then (edit_Shared.j3 k3 l0 l1 x6_2 x8_2 (y114.set (x10_3 : Int).toNat (rd_L1 x6_2 x10_3)) x10_3) else (edit_Shared.j3 k3 l0 l1 x6_2 x8_2 y114 x10_3)) = some (r1, r2) := H
                                      have A24 := Aside0.mk A240
                                      clear A240
                                      have HC25 := Aside0.mk H
                                      clear H
                                      obtain ⟨Ao26, co26, eo26⟩ := Kd.N_slice HO_9.out
                                      subst eo26
                                      have p113 : 0 ≤ ((ji17) : Int) := of_decide_eq_true (by first | (with_reducible assumption) | assumption)
                                      have q113 : (ji17) < (x9_3.length : Int) := of_decide_eq_true (by first | (with_reducible assumption) | assumption)
                                      obtain ⟨ad113, A113_0, c113_0, e113, hx113_0, hl113_0, hi113_0⟩ := at_L1 (Kd.N_reads' HO_9.out).2.2 (ji17) p113 q113
                                      cases e113
                                      obtain ⟨ce113, hce113, hMe113, hcc113⟩ := Kd.N_get HO_9.out [] (ji17) p113 (by first | exact q113 | exact of_decide_eq_true (by first | (with_reducible assumption) | assumption) | (have e_ := (Kd.N_reads' HO_9.out).1; omega))
                                      obtain ⟨ua113_0, uc113_0, rfl, ul113_0, ge113_0⟩ := Kd.FK_slice_open hMe113
                                      have hv113_0 := hcc113 0 _ rfl
                                      rw [Nat.add_zero, show ((Kd.slice 5 (Kd.int .u8))).sz = 1 from rfl, Nat.mul_one] at hv113_0
                                      replace hv113_0 := Option.some.inj (hv113_0.symm.trans hx113_0)
                                      injection hv113_0 with hva_ hvn_ hvc_
                                      rw [hva_] at ge113_0
                                      rw [hvc_] at ul113_0
                                      have HL113_0 := Aside0.mk (show Kd.V (Kd.int .u8) 5 _ w.heap.size _ _ (rd_L1 x9_3 (ji17)) from Kd.V_mk ul113_0 ge113_0)
                                      clear hva_ hvn_ hvc_ ge113_0 ul113_0
                                      clear hcc113 hce113
                                      have HR113_0 := Aside0.mk hi113_0
                                      have HC113_0 := Aside0.mk hl113_0
                                      clear hi113_0 hl113_0
                                      replace p113 := eq_true p113
                                      replace q113 := eq_true q113
                                      have p22 : 0 ≤ (x10_3 : Int) := of_decide_eq_true (by first | (with_reducible assumption) | assumption)
                                      have q22 : (x10_3 : Int) < ((x9_3.length : Int) : Int) := of_decide_eq_true (by first | (with_reducible assumption) | assumption)
                                      obtain ⟨go22, co22, eo22, gb22, gl22, cl22, HG22⟩ := Kd.N_form HO_9.out (by omega)
                                      (first | cases eo22 | (injection eo22 with ea_ en_ ec_; (first | subst ea_ | (injection ea_ with ea_; subst ea_)); subst ec_; clear en_))
                                      have GB22 := Aside0.mk gb22
                                      have GG22 := Aside0.mk HG22
                                      clear gb22 gl22 HG22
                                      (first | simp only [add_plain] at hx113_0 | skip)
                                      obtain ⟨ce22, hcl22, hM22, hcc22, hfr22⟩ := Kd.N_elem HO_9.out [] (x10_3 : Int) p22 q22
                                      obtain ⟨ua22_0, uc22_0, rfl, ul22_0, ge22_0⟩ := Kd.FK_slice_open hM22
                                      have hx22_0 := hcc22 0 _ rfl
                                      have hf22_0 := hfr22 0
                                      (try simp only [show ((Kd.slice 5 (Kd.int .u8))).sz = 1 from rfl, Nat.mul_one, Nat.add_zero] at hx22_0)
                                      (try simp only [show ((Kd.slice 5 (Kd.int .u8))).sz = 1 from rfl, Nat.mul_one, Nat.add_zero] at hf22_0)
                                      clear hcl22 hcc22 hfr22 hM22
                                      replace p22 := eq_true p22
                                      replace q22 := eq_true q22
                                      have HX27 := Aside0.mk (show Kd.N (Kd.slice 5 (Kd.int .u8)) 56 wr w.heap.size (fun k_ => some k_ ≠ (u6 : Value).ownBlock) (.slice (some ⟨go22, 0, none⟩) x9_3.length co26) x9_3 from (by (with_reducible repeat (first | apply Kd.N_alloc | apply Kd.N_drewN | apply Kd.N_drew)); exact HO_9.out))
                                      obtain ⟨ce27, hcl27, hM27, hcc27, hfr27⟩ := Kd.N_elem HX27.out [] (x10_3 : Int) (of_decide_eq_true (by first | (with_reducible assumption) | assumption)) (by have h_ : (x10_3 : Int) < ((x9_3.length : Int) : Int) := of_decide_eq_true (by first | (with_reducible assumption) | assumption); first | exact h_ | (have e_ := (Kd.N_reads' HO_9.out).1; omega) | simpa using h_)
                                      obtain ⟨ua27_0, uc27_0, rfl, ul27_0, ge27_0⟩ := Kd.FK_slice_open hM27
                                      have HP27 := Kd.N_seg HX27.out (x10_3 : Int) (of_decide_eq_true (by first | (with_reducible assumption) | assumption)) (by have h_ : (x10_3 : Int) < ((x9_3.length : Int) : Int) := of_decide_eq_true (by first | (with_reducible assumption) | assumption); first | exact h_ | (have e_ := (Kd.N_reads' HO_9.out).1; omega) | simpa using h_) (seg := [.slice A113_0 (rd_L1 x9_3 (ji17)).length c113_0]) (j := 0) hcl27 hcc27 (show 1 ≤ 1 from by decide) (x' := rd_L1 x9_3 (ji17)) (Kd.FK_slice_mk (Kd.V_reads' (Kd.V_mono (ok' := (fun k_ => ((fun k_ => some k_ ≠ (u6 : Value).ownBlock)) k_ ∧ k_ ≠ go22)) (HL113_0.out) (fun k_ hk => ⟨hk.1, fun e_ => (hk.2) (by rw [e_]; rfl)⟩))).2.1 (Kd.V_F (Kd.V_mono (ok' := (fun k_ => ((fun k_ => some k_ ≠ (u6 : Value).ownBlock)) k_ ∧ k_ ≠ go22)) (HL113_0.out) (fun k_ hk => ⟨hk.1, fun e_ => (hk.2) (by rw [e_]; rfl)⟩)))) (fun _ hk => hk)
                                      have hx27_0 := hcc27 0 _ rfl
                                      (try simp only [show ((Kd.slice 5 (Kd.int .u8))).sz = 1 from rfl, Nat.mul_one, Nat.add_zero] at hx27_0)
                                      have hf27_0 := hfr27 0
                                      (try simp only [show ((Kd.slice 5 (Kd.int .u8))).sz = 1 from rfl, Nat.mul_one, Nat.add_zero] at hf27_0)
                                      clear hcl27 hcc27 hfr27 hM27
                                      (try simp only [show ((Kd.slice 5 (Kd.int .u8))).sz = 1 from rfl, Nat.mul_one, Nat.add_zero] at HP27)
                                      (try simp only [show ((Kd.slice 5 (Kd.int .u8))).sz = 1 from rfl, Nat.mul_one, Nat.add_zero] at HP27)
                                      try go_wp2_with (first | ((with_reducible refine gate_store (t := 56) (p := 49) rfl ?_); refine store_event (t := 56) (p := 49) (v := ?vo_w28) (w1 := (wr.setCell ⟨go22, (x10_3 : Int).toNat, none⟩ (.slice A113_0 (rd_L1 x9_3 (ji17)).length c113_0))) ?hg ?ho ?hn ?hr ?_; (case ho => rfl); (case hg => rfl); (case hn => rfl); (case hr => first | (go_simp; done) | (go_simp; rfl)); intro w28 hw; have hg : wr.grownBy w28 (some go22) := (by rw [hw]; exact HP27.2); have hp_ : Kd.N (Kd.slice 5 (Kd.int .u8)) 56 w28 w.heap.size (fun k_ => some k_ ≠ (u6 : Value).ownBlock) (.slice (some ⟨go22, 0, none⟩) x9_3.length co26) y114 := (by rw [hw, Ny114.out]; exact HP27.1); clear HP27; have n0_ := Aside0.mk (Kd.N_afterv (v := (.slice (some ⟨go22, 0, none⟩) x9_3.length co26)) (v1 := (.slice (some ⟨go22, 0, none⟩) x9_3.length co26)) (ok := (fun _ => True)) (by (with_reducible repeat (first | apply Kd.N_alloc | apply Kd.N_drewN | apply Kd.N_drew)); exact Kd.N_mono HO_6.out (fun _ hk => ⟨trivial, hk⟩)) hg (.inl rfl)); have n1_ := Aside0.mk (hp_); have n2_ := Aside0.mk (Kd.V_afterv (v := (.slice (some ⟨go22, 0, none⟩) x9_3.length co26)) (v1 := (.slice (some ⟨go22, 0, none⟩) x9_3.length co26)) (ok := (fun k_ => some k_ ≠ (u6 : Value).ownBlock)) (by (with_reducible repeat (first | apply Kd.V_alloc | apply Kd.V_drewN | apply Kd.V_drew)); exact HL113_0.out) hg (.inl rfl)); have n3_ := Aside0.mk ((by rw [hw]; exact below_set (HB.out) GB22.out : Below w.heap.size w w28)); clear HO_6; clear HO_9; clear HL113_0; clear HB; have HO_6 := n0_; have HO_9 := n1_; have HL113_0 := n2_; have HB := n3_; clear n0_ n1_ n2_ n3_; clear hg hw hp_))
                                      have n0_ := Aside0.mk (Kd.N_drew HO_6.out)
                                      have n1_ := Aside0.mk (Kd.N_drew HO_9.out)
                                      have n2_ := Aside0.mk (Kd.V_drew HL113_0.out)
                                      have n3_ := Aside0.mk (below_drew1 HB.out)
                                      clear HO_6
                                      clear HO_9
                                      clear HL113_0
                                      clear HB
                                      have HO_6 := n0_
                                      have HO_9 := n1_
                                      have HL113_0 := n2_
                                      have HB := n3_
                                      clear n0_ n1_ n2_ n3_
                                      obtain ⟨Ao30, co30, eo30⟩ := Kd.N_slice HO_6.out
                                      (first | subst eo30 | (injection eo30 with f1_ f2_ f3_; have f4_ := f1_.symm; have f5_ := f3_.symm; clear f1_ f2_ f3_; subst f4_; subst f5_))
                                      have p115 : 0 ≤ (x10_3 : Int) := of_decide_eq_true (by first | (with_reducible assumption) | assumption)
                                      have q115 : x10_3 < (x6_2.length : Int) := of_decide_eq_true (by first | (with_reducible assumption) | assumption)
                                      obtain ⟨ad115, A115_0, c115_0, e115, hx115_0, hl115_0, hi115_0⟩ := at_L1 (Kd.N_reads' HO_6.out).2.2 x10_3 p115 q115
                                      cases e115
                                      obtain ⟨ce115, hce115, hMe115, hcc115⟩ := Kd.N_get HO_6.out [] x10_3 p115 (by first | exact q115 | exact of_decide_eq_true (by first | (with_reducible assumption) | assumption) | (have e_ := (Kd.N_reads' HO_6.out).1; omega))
                                      obtain ⟨ua115_0, uc115_0, rfl, ul115_0, ge115_0⟩ := Kd.FK_slice_open hMe115
                                      have hv115_0 := hcc115 0 _ rfl
                                      rw [Nat.add_zero, show ((Kd.slice 5 (Kd.int .u8))).sz = 1 from rfl, Nat.mul_one] at hv115_0
                                      replace hv115_0 := Option.some.inj (hv115_0.symm.trans hx115_0)
                                      injection hv115_0 with hva_ hvn_ hvc_
                                      rw [hva_] at ge115_0
                                      rw [hvc_] at ul115_0
                                      have HL115_0 := Aside0.mk (show Kd.V (Kd.int .u8) 5 _ w.heap.size _ _ (rd_L1 x6_2 x10_3) from Kd.V_mk ul115_0 ge115_0)
                                      clear hva_ hvn_ hvc_ ge115_0 ul115_0
                                      clear hcc115 hce115
                                      have HR115_0 := Aside0.mk hi115_0
                                      have HC115_0 := Aside0.mk hl115_0
                                      clear hi115_0 hl115_0
                                      replace p115 := eq_true p115
                                      replace q115 := eq_true q115
                                      have p116 : 0 ≤ (x10_3 : Int) := of_decide_eq_true (by first | (with_reducible assumption) | assumption)
                                      have q116 : x10_3 < (y114.length : Int) := (by have h_ : (x10_3 : Int) < ((x9_3.length : Int) : Int) := of_decide_eq_true (by first | (with_reducible assumption) | assumption); first | (have e_ := (Kd.N_reads' HO_9.out).1; omega) | simpa only [Ny114.out, List.length_set] using h_)
                                      have ql116 : ((x10_3 : Int) < ((x9_3.length : Int) : Int)) = True := eq_true (of_decide_eq_true (by first | (with_reducible assumption) | assumption))
                                      obtain ⟨ad116, A116_0, c116_0, e116, hx116_0, hl116_0, hi116_0⟩ := at_L1 (Kd.N_reads' HO_9.out).2.2 x10_3 p116 q116
                                      obtain rfl : (⟨go22, 0, none⟩ : Addr) = ad116 := (by injection e116)
                                      obtain ⟨ce116, hce116, hMe116, hcc116⟩ := Kd.N_get HO_9.out [] x10_3 p116 (by first | exact q116 | exact of_decide_eq_true (by first | (with_reducible assumption) | assumption) | (have e_ := (Kd.N_reads' HO_9.out).1; omega))
                                      obtain ⟨ua116_0, uc116_0, rfl, ul116_0, ge116_0⟩ := Kd.FK_slice_open hMe116
                                      have hv116_0 := hcc116 0 _ rfl
                                      rw [Nat.add_zero, show ((Kd.slice 5 (Kd.int .u8))).sz = 1 from rfl, Nat.mul_one] at hv116_0
                                      replace hv116_0 := Option.some.inj (hv116_0.symm.trans hx116_0)
                                      injection hv116_0 with hva_ hvn_ hvc_
                                      rw [hva_] at ge116_0
                                      rw [hvc_] at ul116_0
                                      have HL116_0 := Aside0.mk (show Kd.V (Kd.int .u8) 5 _ w.heap.size _ _ (rd_L1 y114 x10_3) from Kd.V_mk ul116_0 ge116_0)
                                      clear hva_ hvn_ hvc_ ge116_0 ul116_0
                                      clear hcc116 hce116
                                      (first | simp only [add_plain] at hx116_0 | simp only [add_at] at hx116_0 | simp only [Addr.add, Nat.zero_add] at hx116_0 | skip)
                                      have HR116_0 := Aside0.mk hi116_0
                                      have HC116_0 := Aside0.mk hl116_0
                                      clear hi116_0 hl116_0
                                      replace p116 := eq_true p116
                                      replace q116 := eq_true q116
                                      refine start_ (n := 10) (S := fun w' => w'.cell? (ad115.add (x10_3).toNat) = some (.slice A115_0 (rd_L1 x6_2 x10_3).length c115_0) ∧ w'.cell? ⟨go22, (x10_3).toNat, none⟩ = some (.slice A116_0 (rd_L1 y114 x10_3).length c116_0)) (ds := []) #[false, false, false, false, false, false, false, false, false, false] (by kernel_rfl) rfl rfl ⟨hx115_0, hx116_0⟩ (fun hHeld => ?_); refine with_tabW edit_Shared.tab13 edit_Shared.bits13 (fun HT_ HW_ => ?_)
                                      generalize w28.drew = w29 at HO_6 HO_9 HL113_0 HB HL115_0 HL116_0 HR115_0 HR116_0 hx115_0 hx116_0 hHeld ⊢
                                      refine pure_ (i := 0) (N := some 50) (v := ?_) (a' := ?_) #[true, false, false, false, false, false, false, false, false, false] rfl rfl (any_of HT_.out (by kernel_rfl)) (fun _ _ _ h => h) (Or.inl ⟨by rfl, ?_⟩) ?_ ?_
                                      rotate_left
                                      · intro w'
                                        go_simp
                                        with_reducible rfl
                                      rotate_left
                                      · simp only [Act.put, List.setIfInBounds_toArray, List.set_cons_zero, List.set_cons_succ, i64_w, i32_w]
                                        rfl
                                      refine pure_ (i := 1) (N := some 51) (v := ?_) (a' := ?_) #[true, true, false, false, false, false, false, false, false, false] rfl rfl (any_of HT_.out (by kernel_rfl)) (fun _ _ _ h => h) (Or.inl ⟨by rfl, ?_⟩) ?_ ?_
                                      rotate_left
                                      · intro w'
                                        go_simp
                                        with_reducible rfl
                                      rotate_left
                                      · simp only [Act.put, List.setIfInBounds_toArray, List.set_cons_zero, List.set_cons_succ, i64_w, i32_w]
                                        rfl
                                      refine pure_ (i := 2) (N := some 52) (v := ?_) (a' := ?_) #[true, true, true, false, false, false, false, false, false, false] rfl rfl (any_of HT_.out (by kernel_rfl)) (fun _ _ _ h => h) (Or.inl ⟨by rfl, ?_⟩) ?_ ?_
                                      rotate_left
                                      · intro w'
                                        go_simp
                                        with_reducible rfl
                                      rotate_left
                                      · simp only [Act.put, List.setIfInBounds_toArray, List.set_cons_zero, List.set_cons_succ, i64_w, i32_w]
                                        rfl
                                      refine pure_ (i := 3) (N := some 53) (v := ?_) (a' := ?_) #[true, true, true, true, false, false, false, false, false, false] rfl rfl (any_of HT_.out (by kernel_rfl)) (fun _ _ _ h => h) (Or.inl ⟨by rfl, ?_⟩) ?_ ?_
                                      rotate_left
                                      · intro w'
                                        go_simp
                                        with_reducible rfl
                                      rotate_left
                                      · simp only [Act.put, List.setIfInBounds_toArray, List.set_cons_zero, List.set_cons_succ, i64_w, i32_w]
                                        rfl
                                      refine pure_ (i := 5) (N := some 55) (v := ?_) (a' := ?_) #[true, true, true, true, false, true, false, false, false, false] rfl rfl (any_of HT_.out (by kernel_rfl)) (fun _ _ _ h => h) (Or.inl ⟨by rfl, ?_⟩) ?_ ?_
                                      rotate_left
                                      · intro w'
                                        go_simp
                                        with_reducible rfl
                                      rotate_left
                                      · simp only [Act.put, List.setIfInBounds_toArray, List.set_cons_zero, List.set_cons_succ, i64_w, i32_w]
                                        rfl
                                      refine pure_ (i := 6) (N := some 56) (v := ?_) (a' := ?_) #[true, true, true, true, false, true, true, false, false, false] rfl rfl (any_of HT_.out (by kernel_rfl)) (fun _ _ _ h => h) (Or.inl ⟨by rfl, ?_⟩) ?_ ?_
                                      rotate_left
                                      · intro w'
                                        go_simp
                                        with_reducible rfl
                                      rotate_left
                                      · simp only [Act.put, List.setIfInBounds_toArray, List.set_cons_zero, List.set_cons_succ, i64_w, i32_w]
                                        rfl
                                      refine pure_ (i := 7) (N := some 57) (v := ?_) (a' := ?_) #[true, true, true, true, false, true, true, true, false, false] rfl rfl (any_of HT_.out (by kernel_rfl)) (fun _ _ _ h => h) (Or.inl ⟨by rfl, ?_⟩) ?_ ?_
                                      rotate_left
                                      · intro w'
                                        go_simp
                                        with_reducible rfl
                                      rotate_left
                                      · simp only [Act.put, List.setIfInBounds_toArray, List.set_cons_zero, List.set_cons_succ, i64_w, i32_w]
                                        rfl
                                      refine take_ (i := 4) (N := some 54) (v := ?_) (a' := ?_) #[true, true, true, true, true, true, true, true, false, false] rfl rfl (take_ofW HT_.out HW_.out (by kernel_rfl)) (fun _ _ _ h => h) (Or.inl ⟨by rfl, ?_⟩) hHeld ?_ ?_
                                      rotate_left
                                      · rintro w' ⟨s0, s1⟩
                                        go_simp
                                        with_reducible rfl
                                      rotate_left
                                      · simp only [Act.put, List.setIfInBounds_toArray, List.set_cons_zero, List.set_cons_succ, i64_w, i32_w]
                                        rfl
                                      refine take_ (i := 8) (N := some 58) (v := ?_) (a' := ?_) #[true, true, true, true, true, true, true, true, true, false] rfl rfl (take_ofW HT_.out HW_.out (by kernel_rfl)) (fun _ _ _ h => h) (Or.inl ⟨by rfl, ?_⟩) hHeld ?_ ?_
                                      rotate_left
                                      · rintro w' ⟨s0, s1⟩
                                        go_simp
                                        with_reducible rfl
                                      rotate_left
                                      · simp only [Act.put, List.setIfInBounds_toArray, List.set_cons_zero, List.set_cons_succ, i64_w, i32_w]
                                        rfl
                                      refine one_ (i := 9) (N := some 59) #[true, true, true, true, true, true, true, true, true, true] rfl rfl (one_of HT_.out (by kernel_rfl)) (by decide) (fun K hK => ?_)
                                      refine goesv_ Try.func76 (by kernel_rfl) rfl #[.slice A115_0 (rd_L1 x6_2 x10_3).length c115_0, .slice A116_0 (rd_L1 y114 x10_3).length c116_0] (by rfl) rfl rfl (by rfl) (by (try simp only [List.map_toArray, List.map_cons, List.map_nil]); first | done | rfl | (simp only [List.length_drop, List.length_take]; rfl)) ?_
                                      with_reducible refine (edit_Shared_1.calls _ _ (rd_L1 x6_2 x10_3) _ _ (rd_L1 y114 x10_3) t117 _ ?side1 ?side2 ?side3 ?side4 A24.out).mono ?_
                                      (case side1 => repeat (first | exact (by repeat (first | (with_reducible exact HR115_0.out) | (with_reducible refine Kd.C_alloc ?_ _) | (with_reducible refine Kd.C_drewN ?_ _) | (with_reducible refine Kd.C_drew ?_) | exact HR115_0.out)) | (with_reducible refine Kd.C_alloc ?_ _) | (with_reducible refine Kd.C_drewN ?_ _) | (with_reducible refine Kd.C_drew ?_)))
                                      (case side2 => exact HC115_0.out)
                                      (case side3 => repeat (first | exact (by repeat (first | (with_reducible exact HR116_0.out) | (with_reducible refine Kd.C_alloc ?_ _) | (with_reducible refine Kd.C_drewN ?_ _) | (with_reducible refine Kd.C_drew ?_) | exact HR116_0.out)) | (with_reducible refine Kd.C_alloc ?_ _) | (with_reducible refine Kd.C_drewN ?_ _) | (with_reducible refine Kd.C_drew ?_)))
                                      (case side4 => exact HC116_0.out)
                                      rintro e w' ⟨rfl, ⟨nd, rfl⟩⟩
                                      refine ⟨_, rfl, ?_⟩
                                      refine hK.out _ _ ⟨hHeld.1, hHeld.2⟩ (fun hHeld => ?_)
                                      clear hK K
                                      refine norm_ (a' := ?_) ?_ ?_
                                      rotate_left
                                      · show Act.put _ (some 59) _ = _
                                        simp only [Act.put, List.setIfInBounds_toArray, List.set_cons_zero, List.set_cons_succ, i64_w, i32_w]
                                        rfl
                                      refine done_ (done_of HT_.out (by kernel_rfl)) ?_
                                      (first | (rw [drewN_self w34]; generalize hq_ : World.drewN w34 _ = w34; (try (first | (have n0_ := Aside0.mk (below_at hq_ HB.out); clear HB; have HB := n0_; clear n0_))); (try (first | (have n1_ := Aside0.mk (Kd.N_at hq_ HL113_0.out); clear HL113_0; have HL113_0 := n1_; clear n1_) | (have n1_ := Aside0.mk (Kd.R_at hq_ HL113_0.out); clear HL113_0; have HL113_0 := n1_; clear n1_) | (have n1_ := Aside0.mk ((hq_ ▸ (Kd.V_drewN HL113_0.out _))); clear HL113_0; have HL113_0 := n1_; clear n1_))); (try (first | (have n2_ := Aside0.mk (Kd.N_at hq_ HL115_0.out); clear HL115_0; have HL115_0 := n2_; clear n2_) | (have n2_ := Aside0.mk (Kd.R_at hq_ HL115_0.out); clear HL115_0; have HL115_0 := n2_; clear n2_) | (have n2_ := Aside0.mk ((hq_ ▸ (Kd.V_drewN HL115_0.out _))); clear HL115_0; have HL115_0 := n2_; clear n2_))); (try (first | (have n3_ := Aside0.mk (Kd.N_at hq_ HL116_0.out); clear HL116_0; have HL116_0 := n3_; clear n3_) | (have n3_ := Aside0.mk (Kd.R_at hq_ HL116_0.out); clear HL116_0; have HL116_0 := n3_; clear n3_) | (have n3_ := Aside0.mk ((hq_ ▸ (Kd.V_drewN HL116_0.out _))); clear HL116_0; have HL116_0 := n3_; clear n3_))); (try (first | (have n4_ := Aside0.mk (Kd.N_at hq_ HO_6.out); clear HO_6; have HO_6 := n4_; clear n4_) | (have n4_ := Aside0.mk (Kd.R_at hq_ HO_6.out); clear HO_6; have HO_6 := n4_; clear n4_) | (have n4_ := Aside0.mk ((hq_ ▸ (Kd.V_drewN HO_6.out _))); clear HO_6; have HO_6 := n4_; clear n4_))); (try (first | (have n5_ := Aside0.mk (Kd.N_at hq_ HO_9.out); clear HO_9; have HO_9 := n5_; clear n5_) | (have n5_ := Aside0.mk (Kd.R_at hq_ HO_9.out); clear HO_9; have HO_9 := n5_; clear n5_) | (have n5_ := Aside0.mk ((hq_ ▸ (Kd.V_drewN HO_9.out _))); clear HO_9; have HO_9 := n5_; clear n5_))); clear hq_) | (rw [drewN_self w1]; generalize hq_ : World.drewN w1 _ = w1; (try (first | (have n0_ := Aside0.mk (below_at hq_ HB.out); clear HB; have HB := n0_; clear n0_))); (try (first | (have n1_ := Aside0.mk (Kd.N_at hq_ HL113_0.out); clear HL113_0; have HL113_0 := n1_; clear n1_) | (have n1_ := Aside0.mk (Kd.R_at hq_ HL113_0.out); clear HL113_0; have HL113_0 := n1_; clear n1_) | (have n1_ := Aside0.mk ((hq_ ▸ (Kd.V_drewN HL113_0.out _))); clear HL113_0; have HL113_0 := n1_; clear n1_))); (try (first | (have n2_ := Aside0.mk (Kd.N_at hq_ HL115_0.out); clear HL115_0; have HL115_0 := n2_; clear n2_) | (have n2_ := Aside0.mk (Kd.R_at hq_ HL115_0.out); clear HL115_0; have HL115_0 := n2_; clear n2_) | (have n2_ := Aside0.mk ((hq_ ▸ (Kd.V_drewN HL115_0.out _))); clear HL115_0; have HL115_0 := n2_; clear n2_))); (try (first | (have n3_ := Aside0.mk (Kd.N_at hq_ HL116_0.out); clear HL116_0; have HL116_0 := n3_; clear n3_) | (have n3_ := Aside0.mk (Kd.R_at hq_ HL116_0.out); clear HL116_0; have HL116_0 := n3_; clear n3_) | (have n3_ := Aside0.mk ((hq_ ▸ (Kd.V_drewN HL116_0.out _))); clear HL116_0; have HL116_0 := n3_; clear n3_))); (try (first | (have n4_ := Aside0.mk (Kd.N_at hq_ HO_6.out); clear HO_6; have HO_6 := n4_; clear n4_) | (have n4_ := Aside0.mk (Kd.R_at hq_ HO_6.out); clear HO_6; have HO_6 := n4_; clear n4_) | (have n4_ := Aside0.mk ((hq_ ▸ (Kd.V_drewN HO_6.out _))); clear HO_6; have HO_6 := n4_; clear n4_))); (try (first | (have n5_ := Aside0.mk (Kd.N_at hq_ HO_9.out); clear HO_9; have HO_9 := n5_; clear n5_) | (have n5_ := Aside0.mk (Kd.R_at hq_ HO_9.out); clear HO_9; have HO_9 := n5_; clear n5_) | (have n5_ := Aside0.mk ((hq_ ▸ (Kd.V_drewN HO_9.out _))); clear HO_9; have HO_9 := n5_; clear n5_))); clear hq_) | (rw [drewN_self w29]; generalize hq_ : World.drewN w29 _ = w29; (try (first | (have n0_ := Aside0.mk (below_at hq_ HB.out); clear HB; have HB := n0_; clear n0_))); (try (first | (have n1_ := Aside0.mk (Kd.N_at hq_ HL113_0.out); clear HL113_0; have HL113_0 := n1_; clear n1_) | (have n1_ := Aside0.mk (Kd.R_at hq_ HL113_0.out); clear HL113_0; have HL113_0 := n1_; clear n1_) | (have n1_ := Aside0.mk ((hq_ ▸ (Kd.V_drewN HL113_0.out _))); clear HL113_0; have HL113_0 := n1_; clear n1_))); (try (first | (have n2_ := Aside0.mk (Kd.N_at hq_ HL115_0.out); clear HL115_0; have HL115_0 := n2_; clear n2_) | (have n2_ := Aside0.mk (Kd.R_at hq_ HL115_0.out); clear HL115_0; have HL115_0 := n2_; clear n2_) | (have n2_ := Aside0.mk ((hq_ ▸ (Kd.V_drewN HL115_0.out _))); clear HL115_0; have HL115_0 := n2_; clear n2_))); (try (first | (have n3_ := Aside0.mk (Kd.N_at hq_ HL116_0.out); clear HL116_0; have HL116_0 := n3_; clear n3_) | (have n3_ := Aside0.mk (Kd.R_at hq_ HL116_0.out); clear HL116_0; have HL116_0 := n3_; clear n3_) | (have n3_ := Aside0.mk ((hq_ ▸ (Kd.V_drewN HL116_0.out _))); clear HL116_0; have HL116_0 := n3_; clear n3_))); (try (first | (have n4_ := Aside0.mk (Kd.N_at hq_ HO_6.out); clear HO_6; have HO_6 := n4_; clear n4_) | (have n4_ := Aside0.mk (Kd.R_at hq_ HO_6.out); clear HO_6; have HO_6 := n4_; clear n4_) | (have n4_ := Aside0.mk ((hq_ ▸ (Kd.V_drewN HO_6.out _))); clear HO_6; have HO_6 := n4_; clear n4_))); (try (first | (have n5_ := Aside0.mk (Kd.N_at hq_ HO_9.out); clear HO_9; have HO_9 := n5_; clear n5_) | (have n5_ := Aside0.mk (Kd.R_at hq_ HO_9.out); clear HO_9; have HO_9 := n5_; clear n5_) | (have n5_ := Aside0.mk ((hq_ ▸ (Kd.V_drewN HO_9.out _))); clear HO_9; have HO_9 := n5_; clear n5_))); clear hq_) | skip)
                                      go_upto_if 59 with (fail)
                                      go_cut [] (fun wc => ∃ (kq : Nat) (x9_24 : List (List Int)), Aside0 (edit_Shared.j3 kq l0 l1 x6_2 x8_2 x9_24 x10_3 = some (r1, r2)) ∧ Aside0 (kq ≤ k3) ∧ Aside0 (Kd.N (Kd.slice 5 (Kd.int .u8)) 56 wc w.heap.size (fun k_ => some k_ ≠ ((.slice (some ⟨go22, 0, none⟩) x9_3.length co26) : Value).ownBlock) (.slice (some ad115) x6_2.length co30) x6_2) ∧ Aside0 (Kd.N (Kd.slice 5 (Kd.int .u8)) 56 wc w.heap.size (fun k_ => some k_ ≠ ((.slice (some ad115) x6_2.length co30) : Value).ownBlock) (.slice (some ⟨go22, 0, none⟩) x9_3.length co26) x9_24) ∧ Aside0 (Below w.heap.size w wc))
                                      case first =>
                                        have H := HC25.out
                                        clear HC25
                                        by_cases c31 : t117 = true
                                        · subst c31
                                          have H1 : (edit_Shared.j3 k3 l0 l1 x6_2 x8_2 (y114.set (x10_3 : Int).toNat (rd_L1 x6_2 x10_3)) x10_3) = some (r1, r2) := by rw [if_pos rfl] at H; exact H
                                          clear H
                                          have H := H1
                                          clear H1
                                          obtain ⟨y119, hy119⟩ : ∃ y_ : List (List Int), y_ = (y114.set (x10_3 : Int).toNat (rd_L1 x6_2 x10_3)) := ⟨_, rfl⟩
                                          replace H : (edit_Shared.j3 k3 l0 l1 x6_2 x8_2 y119 x10_3) = some (r1, r2) := by first | (rw [hy119]; with_reducible exact H) | (have H2_ := (Option.bind_some _ _).symm.trans H; rw [hy119]; with_reducible exact H2_) | (have H2_ := (Option.bind_some _ _).symm.trans H; with_reducible exact H2_) | with_reducible exact H | (rw [hy119]; exact H) | exact H
                                          have Ny119 := Aside0.mk hy119
                                          clear hy119
                                          have H' := Aside0.mk H
                                          clear H
                                          have p118 : 0 ≤ (x10_3 : Int) := of_decide_eq_true (by first | (with_reducible assumption) | assumption)
                                          have q118 : x10_3 < (x6_2.length : Int) := of_decide_eq_true (by first | (with_reducible assumption) | assumption)
                                          obtain ⟨ad118, A118_0, c118_0, e118, hx118_0, hl118_0, hi118_0⟩ := at_L1 (Kd.N_reads' HO_6.out).2.2 x10_3 p118 q118
                                          try clear hx115_0
                                          repeat clear hHeld
                                          obtain rfl : ad115 = ad118 := (by injection e118)
                                          obtain ⟨ce118, hce118, hMe118, hcc118⟩ := Kd.N_get HO_6.out [] x10_3 p118 (by first | exact q118 | exact of_decide_eq_true (by first | (with_reducible assumption) | assumption) | (have e_ := (Kd.N_reads' HO_6.out).1; omega))
                                          obtain ⟨ua118_0, uc118_0, rfl, ul118_0, ge118_0⟩ := Kd.FK_slice_open hMe118
                                          have hv118_0 := hcc118 0 _ rfl
                                          rw [Nat.add_zero, show ((Kd.slice 5 (Kd.int .u8))).sz = 1 from rfl, Nat.mul_one] at hv118_0
                                          replace hv118_0 := Option.some.inj (hv118_0.symm.trans hx118_0)
                                          injection hv118_0 with hva_ hvn_ hvc_
                                          rw [hva_] at ge118_0
                                          rw [hvc_] at ul118_0
                                          have HL118_0 := Aside0.mk (show Kd.V (Kd.int .u8) 5 _ w.heap.size _ _ (rd_L1 x6_2 x10_3) from Kd.V_mk ul118_0 ge118_0)
                                          clear hva_ hvn_ hvc_ ge118_0 ul118_0
                                          clear hcc118 hce118
                                          have HR118_0 := Aside0.mk hi118_0
                                          have HC118_0 := Aside0.mk hl118_0
                                          clear hi118_0 hl118_0
                                          replace p118 := eq_true p118
                                          replace q118 := eq_true q118
                                          have p32 : 0 ≤ (x10_3 : Int) := of_decide_eq_true (by first | (with_reducible assumption) | assumption)
                                          have q32 : (x10_3 : Int) < ((x9_3.length : Int) : Int) := of_decide_eq_true (by first | (with_reducible assumption) | assumption)
                                          obtain ⟨ce32, hcl32, hM32, hcc32, hfr32⟩ := Kd.N_elem HO_9.out [] (x10_3 : Int) p32 q32
                                          obtain ⟨ua32_0, uc32_0, rfl, ul32_0, ge32_0⟩ := Kd.FK_slice_open hM32
                                          have hx32_0 := hcc32 0 _ rfl
                                          have hf32_0 := hfr32 0
                                          (try simp only [show ((Kd.slice 5 (Kd.int .u8))).sz = 1 from rfl, Nat.mul_one, Nat.add_zero] at hx32_0)
                                          (try simp only [show ((Kd.slice 5 (Kd.int .u8))).sz = 1 from rfl, Nat.mul_one, Nat.add_zero] at hf32_0)
                                          clear hcl32 hcc32 hfr32 hM32
                                          replace p32 := eq_true p32
                                          replace q32 := eq_true q32
                                          have HX33 := Aside0.mk (show Kd.N (Kd.slice 5 (Kd.int .u8)) 56 w29 w.heap.size (fun k_ => some k_ ≠ (.slice (some ad115) x6_2.length co30 : Value).ownBlock) (.slice (some ⟨go22, 0, none⟩) x9_3.length co26) y114 from (by (with_reducible repeat (first | apply Kd.N_alloc | apply Kd.N_drewN | apply Kd.N_drew)); exact HO_9.out))
                                          obtain ⟨ce33, hcl33, hM33, hcc33, hfr33⟩ := Kd.N_elem HX33.out [] (x10_3 : Int) (of_decide_eq_true (by first | (with_reducible assumption) | assumption)) (by have h_ : (x10_3 : Int) < ((x9_3.length : Int) : Int) := of_decide_eq_true (by first | (with_reducible assumption) | assumption); first | exact h_ | (have e_ := (Kd.N_reads' HO_9.out).1; omega) | simpa using h_)
                                          obtain ⟨ua33_0, uc33_0, rfl, ul33_0, ge33_0⟩ := Kd.FK_slice_open hM33
                                          have HP33 := Kd.N_seg HX33.out (x10_3 : Int) (of_decide_eq_true (by first | (with_reducible assumption) | assumption)) (by have h_ : (x10_3 : Int) < ((x9_3.length : Int) : Int) := of_decide_eq_true (by first | (with_reducible assumption) | assumption); first | exact h_ | (have e_ := (Kd.N_reads' HO_9.out).1; omega) | simpa using h_) (seg := [.slice A118_0 (rd_L1 x6_2 x10_3).length c118_0]) (j := 0) hcl33 hcc33 (show 1 ≤ 1 from by decide) (x' := rd_L1 x6_2 x10_3) (Kd.FK_slice_mk (Kd.V_reads' (Kd.V_mono (ok' := (fun k_ => ((fun k_ => some k_ ≠ (.slice (some ad115) x6_2.length co30 : Value).ownBlock)) k_ ∧ k_ ≠ go22)) (HL118_0.out) (fun k_ hk => ⟨hk.2, fun e_ => (hk.1.2) (by rw [e_]; rfl)⟩))).2.1 (Kd.V_F (Kd.V_mono (ok' := (fun k_ => ((fun k_ => some k_ ≠ (.slice (some ad115) x6_2.length co30 : Value).ownBlock)) k_ ∧ k_ ≠ go22)) (HL118_0.out) (fun k_ hk => ⟨hk.2, fun e_ => (hk.1.2) (by rw [e_]; rfl)⟩)))) (fun _ hk => hk)
                                          have hx33_0 := hcc33 0 _ rfl
                                          (try simp only [show ((Kd.slice 5 (Kd.int .u8))).sz = 1 from rfl, Nat.mul_one, Nat.add_zero] at hx33_0)
                                          have hf33_0 := hfr33 0
                                          (try simp only [show ((Kd.slice 5 (Kd.int .u8))).sz = 1 from rfl, Nat.mul_one, Nat.add_zero] at hf33_0)
                                          clear hcl33 hcc33 hfr33 hM33
                                          (try simp only [show ((Kd.slice 5 (Kd.int .u8))).sz = 1 from rfl, Nat.mul_one, Nat.add_zero] at HP33)
                                          (try simp only [show ((Kd.slice 5 (Kd.int .u8))).sz = 1 from rfl, Nat.mul_one, Nat.add_zero] at HP33)
                                          go_wp2_with (first | ((with_reducible refine gate_store (t := 56) (p := 66) rfl ?_); refine store_event (t := 56) (p := 66) (v := ?vo_w34) (w1 := (w29.setCell ⟨go22, (x10_3 : Int).toNat, none⟩ (.slice A118_0 (rd_L1 x6_2 x10_3).length c118_0))) ?hg ?ho ?hn ?hr ?_; (case ho => rfl); (case hg => rfl); (case hn => rfl); (case hr => first | (go_simp; done) | (go_simp; rfl)); intro w34 hw; have hg : w29.grownBy w34 (some go22) := (by rw [hw]; exact HP33.2); have hp_ : Kd.N (Kd.slice 5 (Kd.int .u8)) 56 w34 w.heap.size (fun k_ => some k_ ≠ (.slice (some ad115) x6_2.length co30 : Value).ownBlock) (.slice (some ⟨go22, 0, none⟩) x9_3.length co26) y119 := (by rw [hw, Ny119.out]; exact HP33.1); clear HP33; have n0_ := Aside0.mk (Kd.N_afterv (v := (.slice (some ⟨go22, 0, none⟩) x9_3.length co26)) (v1 := (.slice (some ⟨go22, 0, none⟩) x9_3.length co26)) (ok := (fun _ => True)) (by (with_reducible repeat (first | apply Kd.N_alloc | apply Kd.N_drewN | apply Kd.N_drew)); exact HO_6.out) hg (.inl rfl)); have n1_ := Aside0.mk (hp_); have n2_ := Aside0.mk (Kd.V_afterv (v := (.slice (some ⟨go22, 0, none⟩) x9_3.length co26)) (v1 := (.slice (some ⟨go22, 0, none⟩) x9_3.length co26)) (ok := (fun k_ => some k_ ≠ (.slice (some ad115) x6_2.length co30 : Value).ownBlock)) (by (with_reducible repeat (first | apply Kd.V_alloc | apply Kd.V_drewN | apply Kd.V_drew)); exact HL113_0.out) hg (.inl rfl)); have n3_ := Aside0.mk (Kd.V_afterv (v := (.slice (some ⟨go22, 0, none⟩) x9_3.length co26)) (v1 := (.slice (some ⟨go22, 0, none⟩) x9_3.length co26)) (ok := (fun k_ => some k_ ≠ (.slice (some ad115) x6_2.length co30 : Value).ownBlock)) (by (with_reducible repeat (first | apply Kd.V_alloc | apply Kd.V_drewN | apply Kd.V_drew)); exact Kd.V_mono HL115_0.out (fun _ hk => ⟨hk.2, hk.1.2⟩)) hg (.inl rfl)); have n4_ := Aside0.mk (Kd.V_afterv (v := (.slice (some ⟨go22, 0, none⟩) x9_3.length co26)) (v1 := (.slice (some ⟨go22, 0, none⟩) x9_3.length co26)) (ok := (fun k_ => some k_ ≠ (.slice (some ad115) x6_2.length co30 : Value).ownBlock)) (by (with_reducible repeat (first | apply Kd.V_alloc | apply Kd.V_drewN | apply Kd.V_drew)); exact HL116_0.out) hg (.inl rfl)); have n5_ := Aside0.mk (Kd.V_afterv (v := (.slice (some ⟨go22, 0, none⟩) x9_3.length co26)) (v1 := (.slice (some ⟨go22, 0, none⟩) x9_3.length co26)) (ok := (fun k_ => some k_ ≠ (.slice (some ad115) x6_2.length co30 : Value).ownBlock)) (by (with_reducible repeat (first | apply Kd.V_alloc | apply Kd.V_drewN | apply Kd.V_drew)); exact Kd.V_mono HL118_0.out (fun _ hk => ⟨hk.2, hk.1.2⟩)) hg (.inl rfl)); have n6_ := Aside0.mk ((by rw [hw]; exact below_set (HB.out) GB22.out : Below w.heap.size w w34)); clear HO_6; clear HO_9; clear HL113_0; clear HL115_0; clear HL116_0; clear HL118_0; clear HB; have HO_6 := n0_; have HO_9 := n1_; have HL113_0 := n2_; have HL115_0 := n3_; have HL116_0 := n4_; have HL118_0 := n5_; have HB := n6_; clear n0_ n1_ n2_ n3_ n4_ n5_ n6_; clear hg hw hp_))
                                          first | go_meet | ((simp only [← hji6, ← hji17]); go_meet)
                                          case rel => exact ⟨_, (y119), (by first | exact H' | ((simp only [hji6, hji17]); exact H') | (have h_ := H'.out; simp only [← hji6, ← hji17] at h_ ⊢; exact ⟨h_⟩)), ⟨by have := HJ2.out; have := HK2.out; have := HK3.out; first | omega | exact Nat.le_refl _⟩, ⟨by (with_reducible repeat (first | apply Kd.N_alloc | apply Kd.N_drewN | apply Kd.N_drew)); exact Kd.N_mono HO_6.out (fun _ hk => hk.2)⟩, ⟨by (with_reducible repeat (first | apply Kd.N_alloc | apply Kd.N_drewN | apply Kd.N_drew)); exact HO_9.out⟩, ⟨by repeat (first | (with_reducible first | exact HB.out | apply below_alloc | apply pw_below_drewN | apply below_drew1) | exact HB.out)⟩⟩
                                        · replace c31 := Bool.eq_false_iff.mpr c31
                                          subst c31
                                          have H1 : (edit_Shared.j3 k3 l0 l1 x6_2 x8_2 y114 x10_3) = some (r1, r2) := by rw [if_neg (show ¬ (false = true) by decide)] at H; exact H
                                          clear H
                                          have H := H1
                                          clear H1
                                          have H' := Aside0.mk H
                                          clear H
                                          go_wp2
                                          first | go_meet | ((simp only [← hji6, ← hji17]); go_meet)
                                          case rel => exact ⟨_, (y114), (by first | exact H' | ((simp only [hji6, hji17]); exact H') | (have h_ := H'.out; simp only [← hji6, ← hji17] at h_ ⊢; exact ⟨h_⟩)), ⟨by have := HJ2.out; have := HK2.out; have := HK3.out; first | omega | exact Nat.le_refl _⟩, ⟨by (with_reducible repeat (first | apply Kd.N_alloc | apply Kd.N_drewN | apply Kd.N_drew)); exact Kd.N_mono HO_6.out (fun _ hk => hk.2)⟩, ⟨by (with_reducible repeat (first | apply Kd.N_alloc | apply Kd.N_drewN | apply Kd.N_drew)); exact HO_9.out⟩, ⟨by repeat (first | (with_reducible first | exact HB.out | apply below_alloc | apply pw_below_drewN | apply below_drew1) | exact HB.out)⟩⟩
                                      case rest =>
                                        clear HC25
                                        try clear c1
                                        try clear p1
                                        try clear q1
                                        try clear hx1
                                        try clear c2
                                        try clear p2
                                        try clear q2
                                        try clear hx2
                                        try clear hf2
                                        try clear c3
                                        try clear p3
                                        try clear q3
                                        try clear hx3
                                        try clear hf3
                                        try clear c4
                                        try clear c4b0
                                        try clear c4b1
                                        try clear c5
                                        try clear p6
                                        try clear c7
                                        try clear c7b0
                                        try clear c7b1
                                        try clear c8
                                        try clear c8b0
                                        try clear c8b1
                                        try clear c11
                                        try clear c11b0
                                        try clear p11
                                        try clear q11
                                        try clear hx11
                                        try clear c12
                                        try clear c12b0
                                        try clear c12b1
                                        try clear c13
                                        try clear c13b0
                                        try clear c13b1
                                        try clear c16
                                        try clear c16b0
                                        try clear c18
                                        try clear c18b0
                                        try clear c19
                                        try clear c19b0
                                        try clear c20
                                        try clear c20b0
                                        try clear c21
                                        try clear c21b0
                                        try clear c22
                                        try clear p22
                                        try clear q22
                                        try clear hx22
                                        try clear hf22
                                        try clear c23
                                        try clear c23b0
                                        try clear c27
                                        try clear hx27
                                        try clear hf27
                                        try clear c31
                                        try clear c32
                                        try clear p32
                                        try clear q32
                                        try clear hx32
                                        try clear hf32
                                        try clear c33
                                        try clear hx33
                                        try clear hf33
                                        try clear hx113_0
                                        try clear hx115_0
                                        try clear hx116_0
                                        try clear hx118_0
                                        try clear hx22_0
                                        try clear hx27_0
                                        try clear hx32_0
                                        try clear hx33_0
                                        try clear p113
                                        try clear p115
                                        try clear p116
                                        try clear p118
                                        try clear p2
                                        try clear p22
                                        try clear p32
                                        try clear p6
                                        try clear q113
                                        try clear q115
                                        try clear q116
                                        try clear q118
                                        try clear q22
                                        try clear q32
                                        obtain ⟨kq, x9_24, HA, HJ24, HO_6, HO_9, HB⟩ := hcut
                                        have hl9_24 := (Kd.N_reads' HO_9.out).1
                                        rw [hl9_24] at HO_9
                                        (try simp only [hl9_24])
                                        (try simp only [hl9_24] at HO_6)
                                        cases kq with
                                        | zero => exact absurd HA.out (by simp [edit_Shared.j3])
                                        | succ kj24 =>
                                          have H := HA.out
                                          clear HA
                                          simp only [edit_Shared.j3] at H
                                          by_cases c35 : 0 ≤ x8_2
                                          · rw [if_pos c35] at H
                                            have c35b0 : decide (0 ≤ x8_2) = true := decide_eq_true c35
                                            clear c35
                                            by_cases c36 : x8_2 < (l0.length : Int)
                                            · rw [if_pos c36] at H
                                              have c36b0 : decide (x8_2 < (l0.length : Int)) = true := decide_eq_true c36
                                              (try (have c36b0h := c36b0; simp only [hl9_24] at c36b0h))
                                              clear c36
                                              by_cases c37 : 0 ≤ x10_3
                                              · rw [if_pos c37] at H
                                                have c37b0 : decide (0 ≤ x10_3) = true := decide_eq_true c37
                                                clear c37
                                                by_cases c38 : x10_3 < (l1.length : Int)
                                                · rw [if_pos c38] at H
                                                  have c38b0 : decide (x10_3 < (l1.length : Int)) = true := decide_eq_true c38
                                                  (try (have c38b0h := c38b0; simp only [hl9_24] at c38b0h))
                                                  clear c38
                                                  by_cases c39 : (rd l0 x8_2) = (rd l1 x10_3)
                                                  · rw [if_pos c39] at H
                                                    have c39b0 : ((rd l0 x8_2) == (rd l1 x10_3)) = true := beq_iff_eq.mpr c39
                                                    have c39b1 : ((rd l0 x8_2) != (rd l1 x10_3)) = false := bne_eq_false_iff_eq.mpr c39
                                                    clear c39
                                                    obtain ⟨y123, hy123⟩ : ∃ y_ : List Int, y_ = (([rd l0 x8_2] : List Int)) := ⟨_, rfl⟩
                                                    replace H : (if 0 ≤ (wrap64 (x10_3 + 1)) then (if (wrap64 (x10_3 + 1)) < (x6_2.length : Int) then (if y123.length + (rd_L1 x6_2 (wrap64 (x10_3 + 1))).length < 140737488355328 then ((some (y123 ++ (rd_L1 x6_2 (wrap64 (x10_3 + 1))) : List Int)).bind fun y127 => (if x10_3 < (x9_24.length : Int) then ((edit_Shared_1.f y127 (rd_L1 x9_24 x10_3)).bind fun t131 => (if t131 = true then (edit_Shared.l1 kj24 l0 l1 x6_2 x8_2 (x9_24.set (x10_3 : Int).toNat y127) (wrap64 (x10_3 - 1))) else (edit_Shared.l1 kj24 l0 l1 x6_2 x8_2 x9_24 (wrap64 (x10_3 - 1))))) else (none))) else (none)) else (none)) else (none)) = some (r1, r2) := by first | (rw [hy123]; with_reducible exact H) | (have H2_ := (Option.bind_some _ _).symm.trans H; rw [hy123]; with_reducible exact H2_) | (have H2_ := (Option.bind_some _ _).symm.trans H; with_reducible exact H2_) | with_reducible exact H | (rw [hy123]; exact H) | exact H
                                                    have Ny123 := Aside0.mk hy123
                                                    clear hy123
                                                    replace H : (if 0 ≤ (ji17) then (if (ji17) < (x6_2.length : Int) then (if y123.length + (rd_L1 x6_2 (ji17)).length < 140737488355328 then ((some (y123 ++ (rd_L1 x6_2 (ji17)) : List Int)).bind fun y127 => (if x10_3 < (x9_24.length : Int) then ((edit_Shared_1.f y127 (rd_L1 x9_24 x10_3)).bind fun t131 => (if t131 = true then (edit_Shared.l1 kj24 l0 l1 x6_2 x8_2 (x9_24.set (x10_3 : Int).toNat y127) (wrap64 (x10_3 - 1))) else (edit_Shared.l1 kj24 l0 l1 x6_2 x8_2 x9_24 (wrap64 (x10_3 - 1))))) else (none))) else (none)) else (none)) else (none)) = some (r1, r2) := by first | (rw [hji17] at H; exact H) | (simp only [hji17] at H ⊢; exact H)
                                                    by_cases c40 : 0 ≤ (ji17)
                                                    · rw [if_pos c40] at H
                                                      have c40b0 : decide (0 ≤ (ji17)) = true := decide_eq_true c40
                                                      clear c40
                                                      by_cases c41 : (ji17) < (x6_2.length : Int)
                                                      · rw [if_pos c41] at H
                                                        have c41b0 : decide ((ji17) < (x6_2.length : Int)) = true := decide_eq_true c41
                                                        (try (have c41b0h := c41b0; simp only [hl9_24] at c41b0h))
                                                        clear c41
                                                        by_cases c42 : y123.length + (rd_L1 x6_2 (ji17)).length < 140737488355328
                                                        · rw [if_pos c42] at H
                                                          have LMc42 := Aside0.mk c42
                                                          clear c42
                                                          obtain ⟨y127, hy127⟩ : ∃ y_ : List Int, y_ = (y123 ++ (rd_L1 x6_2 (ji17))) := ⟨_, rfl⟩
                                                          replace H : (if x10_3 < (x9_24.length : Int) then ((edit_Shared_1.f y127 (rd_L1 x9_24 x10_3)).bind fun t131 => (if t131 = true then (edit_Shared.l1 kj24 l0 l1 x6_2 x8_2 (x9_24.set (x10_3 : Int).toNat y127) (wrap64 (x10_3 - 1))) else (edit_Shared.l1 kj24 l0 l1 x6_2 x8_2 x9_24 (wrap64 (x10_3 - 1))))) else (none)) = some (r1, r2) := by first | (rw [hy127]; with_reducible exact H) | (have H2_ := (Option.bind_some _ _).symm.trans H; rw [hy127]; with_reducible exact H2_) | (have H2_ := (Option.bind_some _ _).symm.trans H; with_reducible exact H2_) | with_reducible exact H | (rw [hy127]; exact H) | exact H
                                                          have Ny127 := Aside0.mk hy127
                                                          clear hy127
                                                          by_cases c43 : x10_3 < (x9_24.length : Int)
                                                          · rw [if_pos c43] at H
                                                            have c43b0 : decide (x10_3 < (x9_24.length : Int)) = true := decide_eq_true c43
                                                            (try (have c43b0h := c43b0; simp only [hl9_24] at c43b0h))
                                                            clear c43
                                                            replace H := Option.bind_eq_some_iff.mp H
                                                            obtain ⟨t131, A440, H⟩ := H
                                                            replace H : (if t131 = true then (edit_Shared.l1 kj24 l0 l1 x6_2 x8_2 (x9_24.set (x10_3 : Int).toNat y127) (wrap64 (x10_3 - 1))) else (edit_Shared.l1 kj24 l0 l1 x6_2 x8_2 x9_24 (wrap64 (x10_3 - 1)))) = some (r1, r2) := H
                                                            have A44 := Aside0.mk A440
                                                            clear A440
                                                            by_cases c45 : t131 = true
                                                            · subst c45
                                                              have H1 : (edit_Shared.l1 kj24 l0 l1 x6_2 x8_2 (x9_24.set (x10_3 : Int).toNat y127) (wrap64 (x10_3 - 1))) = some (r1, r2) := by rw [if_pos rfl] at H; exact H
                                                              clear H
                                                              have H := H1
                                                              clear H1
                                                              obtain ⟨y132, hy132⟩ : ∃ y_ : List (List Int), y_ = (x9_24.set (x10_3 : Int).toNat y127) := ⟨_, rfl⟩
                                                              replace H : (edit_Shared.l1 kj24 l0 l1 x6_2 x8_2 y132 (wrap64 (x10_3 - 1))) = some (r1, r2) := by first | (rw [hy132]; with_reducible exact H) | (have H2_ := (Option.bind_some _ _).symm.trans H; rw [hy132]; with_reducible exact H2_) | (have H2_ := (Option.bind_some _ _).symm.trans H; with_reducible exact H2_) | with_reducible exact H | (rw [hy132]; exact H) | exact H
                                                              have Ny132 := Aside0.mk hy132
                                                              clear hy132
                                                              have H' := Aside0.mk H
                                                              clear H
                                                              try go_wp2
                                                              have n0_ := Aside0.mk (Kd.N_drew HO_6.out)
                                                              have n1_ := Aside0.mk (Kd.N_drew HO_9.out)
                                                              have n2_ := Aside0.mk (below_drew1 HB.out)
                                                              clear HO_6
                                                              clear HO_9
                                                              clear HB
                                                              have HO_6 := n0_
                                                              have HO_9 := n1_
                                                              have HB := n2_
                                                              clear n0_ n1_ n2_
                                                              have p120 : 0 ≤ (x8_2 : Int) := of_decide_eq_true (by first | (with_reducible assumption) | assumption)
                                                              have q120 : x8_2 < (l0.length : Int) := of_decide_eq_true (by first | (with_reducible assumption) | assumption)
                                                              obtain ⟨ad120, e120, hx120_0⟩ := Kd.at_int HR0.out x8_2 p120 q120
                                                              have hw120_0 := hx120_0
                                                              cases e120
                                                              replace hx120_0 := (HB.out.cell (World.block_lt_of_cell? w _ hx120_0)).trans hx120_0
                                                              replace p120 := eq_true p120
                                                              replace q120 := eq_true q120
                                                              have p121 : 0 ≤ (x10_3 : Int) := of_decide_eq_true (by first | (with_reducible assumption) | assumption)
                                                              have q121 : x10_3 < (l1.length : Int) := of_decide_eq_true (by first | (with_reducible assumption) | assumption)
                                                              obtain ⟨ad121, e121, hx121_0⟩ := Kd.at_int HR1.out x10_3 p121 q121
                                                              have hw121_0 := hx121_0
                                                              cases e121
                                                              replace hx121_0 := (HB.out.cell (World.block_lt_of_cell? w _ hx121_0)).trans hx121_0
                                                              replace p121 := eq_true p121
                                                              replace q121 := eq_true q121
                                                              refine start_ (n := 9) (S := fun w' => w'.cell? (ad120.add (x8_2).toNat) = some (.int .u8 (rd l0 x8_2)) ∧ w'.cell? (ad121.add (x10_3).toNat) = some (.int .u8 (rd l1 x10_3))) (ds := []) #[false, false, false, false, false, false, false, false, false] (by kernel_rfl) rfl rfl ⟨((HB.out.cell (World.block_lt_of_cell? w _ hw120_0)).trans hw120_0), ((HB.out.cell (World.block_lt_of_cell? w _ hw121_0)).trans hw121_0)⟩ (fun hHeld => ?_); refine with_tabW edit_Shared.tab15 edit_Shared.bits15 (fun HT_ HW_ => ?_)
                                                              generalize wc.drew = w47 at HO_6 HO_9 HB hx120_0 hx121_0 hHeld ⊢
                                                              refine pure_ (i := 0) (N := some 67) (v := ?_) (a' := ?_) #[true, false, false, false, false, false, false, false, false] rfl rfl (any_of HT_.out (by kernel_rfl)) (fun _ _ _ h => h) (Or.inl ⟨by rfl, ?_⟩) ?_ ?_
                                                              rotate_left
                                                              · intro w'
                                                                go_simp
                                                                with_reducible rfl
                                                              rotate_left
                                                              · simp only [Act.put, List.setIfInBounds_toArray, List.set_cons_zero, List.set_cons_succ, i64_w, i32_w]
                                                                rfl
                                                              refine pure_ (i := 1) (N := some 68) (v := ?_) (a' := ?_) #[true, true, false, false, false, false, false, false, false] rfl rfl (any_of HT_.out (by kernel_rfl)) (fun _ _ _ h => h) (Or.inl ⟨by rfl, ?_⟩) ?_ ?_
                                                              rotate_left
                                                              · intro w'
                                                                go_simp
                                                                with_reducible rfl
                                                              rotate_left
                                                              · simp only [Act.put, List.setIfInBounds_toArray, List.set_cons_zero, List.set_cons_succ, i64_w, i32_w]
                                                                rfl
                                                              refine pure_ (i := 2) (N := some 69) (v := ?_) (a' := ?_) #[true, true, true, false, false, false, false, false, false] rfl rfl (any_of HT_.out (by kernel_rfl)) (fun _ _ _ h => h) (Or.inl ⟨by rfl, ?_⟩) ?_ ?_
                                                              rotate_left
                                                              · intro w'
                                                                go_simp
                                                                with_reducible rfl
                                                              rotate_left
                                                              · simp only [Act.put, List.setIfInBounds_toArray, List.set_cons_zero, List.set_cons_succ, i64_w, i32_w]
                                                                rfl
                                                              refine pure_ (i := 4) (N := some 71) (v := ?_) (a' := ?_) #[true, true, true, false, true, false, false, false, false] rfl rfl (any_of HT_.out (by kernel_rfl)) (fun _ _ _ h => h) (Or.inl ⟨by rfl, ?_⟩) ?_ ?_
                                                              rotate_left
                                                              · intro w'
                                                                go_simp
                                                                with_reducible rfl
                                                              rotate_left
                                                              · simp only [Act.put, List.setIfInBounds_toArray, List.set_cons_zero, List.set_cons_succ, i64_w, i32_w]
                                                                rfl
                                                              refine pure_ (i := 5) (N := some 72) (v := ?_) (a' := ?_) #[true, true, true, false, true, true, false, false, false] rfl rfl (any_of HT_.out (by kernel_rfl)) (fun _ _ _ h => h) (Or.inl ⟨by rfl, ?_⟩) ?_ ?_
                                                              rotate_left
                                                              · intro w'
                                                                go_simp
                                                                with_reducible rfl
                                                              rotate_left
                                                              · simp only [Act.put, List.setIfInBounds_toArray, List.set_cons_zero, List.set_cons_succ, i64_w, i32_w]
                                                                rfl
                                                              refine pure_ (i := 6) (N := some 73) (v := ?_) (a' := ?_) #[true, true, true, false, true, true, true, false, false] rfl rfl (any_of HT_.out (by kernel_rfl)) (fun _ _ _ h => h) (Or.inl ⟨by rfl, ?_⟩) ?_ ?_
                                                              rotate_left
                                                              · intro w'
                                                                go_simp
                                                                with_reducible rfl
                                                              rotate_left
                                                              · simp only [Act.put, List.setIfInBounds_toArray, List.set_cons_zero, List.set_cons_succ, i64_w, i32_w]
                                                                rfl
                                                              refine take_ (i := 3) (N := some 70) (v := ?_) (a' := ?_) #[true, true, true, true, true, true, true, false, false] rfl rfl (take_ofW HT_.out HW_.out (by kernel_rfl)) (fun _ _ _ h => h) (Or.inl ⟨by rfl, ?_⟩) hHeld ?_ ?_
                                                              rotate_left
                                                              · rintro w' ⟨s0, s1⟩
                                                                go_simp
                                                                with_reducible rfl
                                                              rotate_left
                                                              · simp only [Act.put, List.setIfInBounds_toArray, List.set_cons_zero, List.set_cons_succ, i64_w, i32_w]
                                                                rfl
                                                              refine take_ (i := 7) (N := some 74) (v := ?_) (a' := ?_) #[true, true, true, true, true, true, true, true, false] rfl rfl (take_ofW HT_.out HW_.out (by kernel_rfl)) (fun _ _ _ h => h) (Or.inl ⟨by rfl, ?_⟩) hHeld ?_ ?_
                                                              rotate_left
                                                              · rintro w' ⟨s0, s1⟩
                                                                go_simp
                                                                with_reducible rfl
                                                              rotate_left
                                                              · simp only [Act.put, List.setIfInBounds_toArray, List.set_cons_zero, List.set_cons_succ, i64_w, i32_w]
                                                                rfl
                                                              refine pure_ (i := 8) (N := some 75) (v := ?_) (a' := ?_) #[true, true, true, true, true, true, true, true, true] rfl rfl (any_of HT_.out (by kernel_rfl)) (fun _ _ _ h => h) (Or.inl ⟨by rfl, ?_⟩) ?_ ?_
                                                              rotate_left
                                                              · intro w'
                                                                go_simp
                                                                with_reducible rfl
                                                              rotate_left
                                                              · simp only [Act.put, List.setIfInBounds_toArray, List.set_cons_zero, List.set_cons_succ, i64_w, i32_w]
                                                                rfl
                                                              refine done_ (done_of HT_.out (by kernel_rfl)) ?_
                                                              try go_wp2
                                                              have n0_ := Aside0.mk (Kd.N_drew HO_6.out)
                                                              have n1_ := Aside0.mk (Kd.N_drew HO_9.out)
                                                              have n2_ := Aside0.mk (below_drew1 HB.out)
                                                              clear HO_6
                                                              clear HO_9
                                                              clear HB
                                                              have HO_6 := n0_
                                                              have HO_9 := n1_
                                                              have HB := n2_
                                                              clear n0_ n1_ n2_
                                                              have p122 : 0 ≤ (x8_2 : Int) := of_decide_eq_true (by first | (with_reducible assumption) | assumption)
                                                              have q122 : x8_2 < (l0.length : Int) := of_decide_eq_true (by first | (with_reducible assumption) | assumption)
                                                              obtain ⟨ad122, e122, hx122_0⟩ := Kd.at_int HR0.out x8_2 p122 q122
                                                              have hw122_0 := hx122_0
                                                              obtain rfl : ad120 = ad122 := (by injection e122)
                                                              replace hx122_0 := (HB.out.cell (World.block_lt_of_cell? w _ hx122_0)).trans hx122_0
                                                              replace p122 := eq_true p122
                                                              replace q122 := eq_true q122
                                                              have p126 : 0 ≤ ((ji17) : Int) := of_decide_eq_true (by first | (with_reducible assumption) | assumption)
                                                              have q126 : (ji17) < (x6_2.length : Int) := of_decide_eq_true (by first | (with_reducible assumption) | assumption)
                                                              obtain ⟨ad126, A126_0, c126_0, e126, hx126_0, hl126_0, hi126_0⟩ := at_L1 (Kd.N_reads' HO_6.out).2.2 (ji17) p126 q126
                                                              obtain rfl : ad115 = ad126 := (by injection e126)
                                                              obtain ⟨ce126, hce126, hMe126, hcc126⟩ := Kd.N_get HO_6.out [] (ji17) p126 (by first | exact q126 | exact of_decide_eq_true (by first | (with_reducible assumption) | assumption) | (have e_ := (Kd.N_reads' HO_6.out).1; omega))
                                                              obtain ⟨ua126_0, uc126_0, rfl, ul126_0, ge126_0⟩ := Kd.FK_slice_open hMe126
                                                              have hv126_0 := hcc126 0 _ rfl
                                                              rw [Nat.add_zero, show ((Kd.slice 5 (Kd.int .u8))).sz = 1 from rfl, Nat.mul_one] at hv126_0
                                                              replace hv126_0 := Option.some.inj (hv126_0.symm.trans hx126_0)
                                                              injection hv126_0 with hva_ hvn_ hvc_
                                                              rw [hva_] at ge126_0
                                                              rw [hvc_] at ul126_0
                                                              have HL126_0 := Aside0.mk (show Kd.V (Kd.int .u8) 5 _ w.heap.size _ _ (rd_L1 x6_2 (ji17)) from Kd.V_mk ul126_0 ge126_0)
                                                              clear hva_ hvn_ hvc_ ge126_0 ul126_0
                                                              clear hcc126 hce126
                                                              have HR126_0 := Aside0.mk hi126_0
                                                              have HC126_0 := Aside0.mk hl126_0
                                                              clear hi126_0 hl126_0
                                                              replace p126 := eq_true p126
                                                              replace q126 := eq_true q126
                                                              refine start_ (n := 12) (S := fun w' => w'.cell? (ad120.add (x8_2).toNat) = some (.int .u8 (rd l0 x8_2)) ∧ w'.cell? (ad115.add ((ji17)).toNat) = some (.slice A126_0 (rd_L1 x6_2 (ji17)).length c126_0)) (ds := [10]) #[false, false, false, false, false, false, false, false, false, false, false, false] (by kernel_rfl) rfl rfl ⟨((HB.out.cell (World.block_lt_of_cell? w _ hw122_0)).trans hw122_0), hx126_0⟩ (fun hHeld => ?_); refine with_tabW edit_Shared.tab16 edit_Shared.bits16 (fun HT_ HW_ => ?_)
                                                              generalize w47.drew = w48 at HO_6 HO_9 HB HL126_0 HR126_0 hx122_0 hx126_0 hHeld ⊢
                                                              refine pure_ (i := 0) (N := some 76) (v := ?_) (a' := ?_) #[true, false, false, false, false, false, false, false, false, false, false, false] rfl rfl (any_of HT_.out (by kernel_rfl)) (fun _ _ _ h => h) (Or.inl ⟨by rfl, ?_⟩) ?_ ?_
                                                              rotate_left
                                                              · intro w'
                                                                go_simp
                                                                with_reducible rfl
                                                              rotate_left
                                                              · simp only [Act.put, List.setIfInBounds_toArray, List.set_cons_zero, List.set_cons_succ, i64_w, i32_w]
                                                                rfl
                                                              refine pure_ (i := 1) (N := some 77) (v := ?_) (a' := ?_) #[true, true, false, false, false, false, false, false, false, false, false, false] rfl rfl (any_of HT_.out (by kernel_rfl)) (fun _ _ _ h => h) (Or.inl ⟨by rfl, ?_⟩) ?_ ?_
                                                              rotate_left
                                                              · intro w'
                                                                go_simp
                                                                with_reducible rfl
                                                              rotate_left
                                                              · simp only [Act.put, List.setIfInBounds_toArray, List.set_cons_zero, List.set_cons_succ, i64_w, i32_w]
                                                                rfl
                                                              refine pure_ (i := 2) (N := some 78) (v := ?_) (a' := ?_) #[true, true, true, false, false, false, false, false, false, false, false, false] rfl rfl (any_of HT_.out (by kernel_rfl)) (fun _ _ _ h => h) (Or.inl ⟨by rfl, ?_⟩) ?_ ?_
                                                              rotate_left
                                                              · intro w'
                                                                go_simp
                                                                with_reducible rfl
                                                              rotate_left
                                                              · simp only [Act.put, List.setIfInBounds_toArray, List.set_cons_zero, List.set_cons_succ, i64_w, i32_w]
                                                                rfl
                                                              refine pure_ (i := 5) (N := some 81) (v := ?_) (a' := ?_) #[true, true, true, false, false, true, false, false, false, false, false, false] rfl rfl (any_of HT_.out (by kernel_rfl)) (fun _ _ _ h => h) (Or.inl ⟨by rfl, ?_⟩) ?_ ?_
                                                              rotate_left
                                                              · intro w'
                                                                go_simp
                                                                with_reducible rfl
                                                              rotate_left
                                                              · simp only [Act.put, List.setIfInBounds_toArray, List.set_cons_zero, List.set_cons_succ, i64_w, i32_w]
                                                                rfl
                                                              refine pure_ (i := 6) (N := some 82) (v := ?_) (a' := ?_) #[true, true, true, false, false, true, true, false, false, false, false, false] rfl rfl (any_of HT_.out (by kernel_rfl)) (fun _ _ _ h => h) (Or.inl ⟨by rfl, ?_⟩) ?_ ?_
                                                              rotate_left
                                                              · intro w'
                                                                go_simp
                                                                with_reducible rfl
                                                              rotate_left
                                                              · simp only [Act.put, List.setIfInBounds_toArray, List.set_cons_zero, List.set_cons_succ, i64_w, i32_w]
                                                                rfl
                                                              refine pure_ (i := 7) (N := some 83) (v := ?_) (a' := ?_) #[true, true, true, false, false, true, true, true, false, false, false, false] rfl rfl (any_of HT_.out (by kernel_rfl)) (fun _ _ _ h => h) (Or.inl ⟨by rfl, ?_⟩) ?_ ?_
                                                              rotate_left
                                                              · intro w'
                                                                go_simp
                                                                with_reducible rfl
                                                              rotate_left
                                                              · simp only [Act.put, List.setIfInBounds_toArray, List.set_cons_zero, List.set_cons_succ, i64_w, i32_w]
                                                                rfl
                                                              refine pure_ (i := 8) (N := some 84) (v := ?_) (a' := ?_) #[true, true, true, false, false, true, true, true, true, false, false, false] rfl rfl (any_of HT_.out (by kernel_rfl)) (fun _ _ _ h => h) (Or.inl ⟨by rfl, ?_⟩) ?_ ?_
                                                              rotate_left
                                                              · intro w'
                                                                go_simp
                                                                with_reducible rfl
                                                              rotate_left
                                                              · simp only [Act.put, List.setIfInBounds_toArray, List.set_cons_zero, List.set_cons_succ, i64_w, i32_w]
                                                                rfl
                                                              refine take_ (i := 3) (N := some 79) (v := ?_) (a' := ?_) #[true, true, true, true, false, true, true, true, true, false, false, false] rfl rfl (take_ofW HT_.out HW_.out (by kernel_rfl)) (fun _ _ _ h => h) (Or.inl ⟨by rfl, ?_⟩) hHeld ?_ ?_
                                                              rotate_left
                                                              · rintro w' ⟨s0, s1⟩
                                                                go_simp
                                                                with_reducible rfl
                                                              rotate_left
                                                              · simp only [Act.put, List.setIfInBounds_toArray, List.set_cons_zero, List.set_cons_succ, i64_w, i32_w]
                                                                rfl
                                                              refine take_ (i := 9) (N := some 85) (v := ?_) (a' := ?_) #[true, true, true, true, false, true, true, true, true, true, false, false] rfl rfl (take_ofW HT_.out HW_.out (by kernel_rfl)) (fun _ _ _ h => h) (Or.inl ⟨by rfl, ?_⟩) hHeld ?_ ?_
                                                              rotate_left
                                                              · rintro w' ⟨s0, s1⟩
                                                                go_simp
                                                                with_reducible rfl
                                                              rotate_left
                                                              · simp only [Act.put, List.setIfInBounds_toArray, List.set_cons_zero, List.set_cons_succ, i64_w, i32_w]
                                                                rfl
                                                              refine one_ (i := 4) (N := some 80) #[true, true, true, true, true, true, true, true, true, true, false, false] rfl rfl (one_of HT_.out (by kernel_rfl)) (by decide) (fun K hK => ?_)
                                                              refine Kd.R_lit_step (Kd.int .u8) _ 5 ?hg (N := 80) ?hd (xs := ([rd l0 x8_2] : List Int)) (inner := [.int .u8 (rd l0 x8_2)]) (ok := fun _ => True) (okp := fun _ => True) ?hr ?hp (fun _ hk => hk) trivial (Below.refl _ _) (Nat.le_refl _) (by simp) ?_; (case hd => rfl); (case hg => rfl); (case hr => first | (go_simp; done) | (go_simp; rfl)); (case hp => exact (Reps.one (show Kd.M (Kd.int .u8) _ _ _ (rd l0 x8_2) [.int .u8 (rd l0 x8_2)] from rfl) (Reps.none _ _)))
                                                              intro v124 w49 ho50 hb hg_ hnew_
                                                              have HS1_ := (hb.cell (World.block_lt_of_cell? _ _ (hHeld.2))).trans (hHeld.2)
                                                              clear hg_ hnew_
                                                              (first | rw [← Ny123.out] at ho50 | (simp only [Int.reduceToNat] at ho50; rw [← Ny123.out] at ho50))
                                                              have n0_ := Aside0.mk (Kd.N_elder' (by (with_reducible repeat (first | apply Kd.N_alloc | apply Kd.N_drewN | apply Kd.N_drew)); exact HO_6.out) (Kd.R_base ho50) hb)
                                                              have n1_ := Aside0.mk (Kd.N_elder' (by (with_reducible repeat (first | apply Kd.N_alloc | apply Kd.N_drewN | apply Kd.N_drew)); exact HO_9.out) (Kd.R_base ho50) hb)
                                                              have n2_ := Aside0.mk (Kd.V_elder' (by (with_reducible repeat (first | apply Kd.V_alloc | apply Kd.V_drewN | apply Kd.V_drew)); exact HL126_0.out) (Kd.R_base ho50) hb)
                                                              have n3_ := Aside0.mk (Kd.R_lower ho50 (below_size (by repeat (first | (with_reducible first | exact HB.out | apply below_alloc | apply pw_below_drewN | apply below_drew1) | exact HB.out))))
                                                              have n4_ := Aside0.mk (Kd.C_below (by repeat (first | (with_reducible exact HR126_0.out) | (with_reducible refine Kd.C_alloc ?_ _) | (with_reducible refine Kd.C_drewN ?_ _) | (with_reducible refine Kd.C_drew ?_) | exact HR126_0.out)) hb)
                                                              have n5_ := Aside0.mk (below_step (by repeat (first | (with_reducible first | exact HB.out | apply below_alloc | apply pw_below_drewN | apply below_drew1) | exact HB.out)) hb)
                                                              clear HO_6
                                                              clear HO_9
                                                              clear HL126_0
                                                              clear HR126_0
                                                              clear HB
                                                              have HO_6 := n0_
                                                              have HO_9 := n1_
                                                              have HL126_0 := n2_
                                                              have HO125 := n3_
                                                              have HR126_0 := n4_
                                                              have HB := n5_
                                                              clear n0_ n1_ n2_ n3_ n4_ n5_
                                                              clear hb ho50
                                                              refine hK.out _ _ ⟨((HB.out.cell (World.block_lt_of_cell? w _ hw122_0)).trans hw122_0), HS1_⟩ (fun hHeld => ?_)
                                                              clear hK K
                                                              refine norm_ (a' := ?_) ?_ ?_
                                                              rotate_left
                                                              · show Act.put _ (some 80) _ = _
                                                                simp only [Act.put, List.setIfInBounds_toArray, List.set_cons_zero, List.set_cons_succ, i64_w, i32_w]
                                                                rfl
                                                              refine last_ (i := 10) (N := some 86) #[true, true, true, true, true, true, true, true, true, true, true, false] rfl rfl (one_of HT_.out (by kernel_rfl)) (by decide) (fun K hK => ?_)
                                                              refine Kd.R_append_rows_step (Kd.int .u8) (w0 := w) w.heap.size (by rfl) (.tmp 80) (.tmp 85) 56 5 (.int .u8 0) 1 rfl Try.underlying56 info5 rfl (by decide) (by omega) v124 y123 (rd_L1 x6_2 (ji17)) _ _ _ (fun _ => True) (fun _ => False) rfl rfl ?aO ?aR (fun _ _ h => h) (fun _ h => h.elim) ?aF ?aB ?aS ?aL ?_
                                                              (case aR => repeat (first | exact (by repeat (first | (with_reducible exact HR126_0.out) | (with_reducible refine Kd.C_alloc ?_ _) | (with_reducible refine Kd.C_drewN ?_ _) | (with_reducible refine Kd.C_drew ?_) | exact HR126_0.out)) | (with_reducible refine Kd.C_alloc ?_ _) | (with_reducible refine Kd.C_drewN ?_ _) | (with_reducible refine Kd.C_drew ?_)))
                                                              (case aB => exact (by repeat (first | (with_reducible first | exact HB.out | apply below_alloc | apply pw_below_drewN | apply below_drew1) | exact HB.out)))
                                                              (case aF => exact (fun _ _ => trivial))
                                                              (case aO => exact (by (with_reducible repeat (first | apply Kd.R_alloc | apply Kd.R_drewN | apply Kd.R_drew)); exact HO125.out))
                                                              (case aS => exact (below_size (by repeat (first | (with_reducible first | exact HB.out | apply below_alloc | apply pw_below_drewN | apply below_drew1) | exact HB.out))))
                                                              (case aL => have := LMc42.out; omega)
                                                              intro v128 w51 ho hb hg hat
                                                              rw [← Ny127.out] at ho
                                                              have n0_ := Aside0.mk (Kd.N_afterv (ok := (fun k_ => some k_ ≠ (.slice (some ⟨go22, 0, none⟩) x9_24.length co26 : Value).ownBlock)) (by (with_reducible repeat (first | apply Kd.N_alloc | apply Kd.N_drewN | apply Kd.N_drew)); exact HO_6.out) hg hat)
                                                              have n1_ := Aside0.mk (Kd.N_afterv (ok := (fun k_ => some k_ ≠ (.slice (some ad115) x6_2.length co30 : Value).ownBlock)) (by (with_reducible repeat (first | apply Kd.N_alloc | apply Kd.N_drewN | apply Kd.N_drew)); exact HO_9.out) hg hat)
                                                              have n2_ := Aside0.mk (Kd.V_afterv (ok := (fun k_ => some k_ ≠ (.slice (some ad115) x6_2.length co30 : Value).ownBlock ∧ some k_ ≠ (.slice (some ⟨go22, 0, none⟩) x9_24.length co26 : Value).ownBlock)) (by (with_reducible repeat (first | apply Kd.V_alloc | apply Kd.V_drewN | apply Kd.V_drew)); exact Kd.V_mono HL126_0.out (fun _ hk => ⟨⟨hk.1.2, hk.1.1⟩, hk.2⟩)) hg hat)
                                                              have n3_ := Aside0.mk (hb)
                                                              have n4_ := Aside0.mk (ho)
                                                              clear HO_6
                                                              clear HO_9
                                                              clear HL126_0
                                                              clear HB
                                                              clear HO125
                                                              have HO_6 := n0_
                                                              have HO_9 := n1_
                                                              have HL126_0 := n2_
                                                              have HB := n3_
                                                              have HO129 := n4_
                                                              clear n0_ n1_ n2_ n3_ n4_
                                                              clear ho hb hg hat
                                                              refine hK.out _ _ ?_
                                                              clear hK K
                                                              refine norm_ (a' := ?_) ?_ ?_
                                                              rotate_left
                                                              · show Act.put _ (some 86) _ = _
                                                                simp only [Act.put, List.setIfInBounds_toArray, List.set_cons_zero, List.set_cons_succ, i64_w, i32_w]
                                                                rfl
                                                              refine pure_ (i := 11) (N := some 11) (v := ?_) (a' := ?_) #[true, true, true, true, true, true, true, true, true, true, true, true] rfl rfl (any_of HT_.out (by kernel_rfl)) (fun _ _ _ h => h) (Or.inl ⟨by rfl, ?_⟩) ?_ ?_
                                                              rotate_left
                                                              · intro w'
                                                                go_simp
                                                                with_reducible rfl
                                                              rotate_left
                                                              · simp only [Act.put, List.setIfInBounds_toArray, List.set_cons_zero, List.set_cons_succ, i64_w, i32_w]
                                                                rfl
                                                              refine done_ (done_of HT_.out (by kernel_rfl)) ?_
                                                              have p130 : 0 ≤ (x10_3 : Int) := of_decide_eq_true (by first | (with_reducible assumption) | assumption)
                                                              have q130 : x10_3 < (x9_24.length : Int) := of_decide_eq_true (by first | (with_reducible assumption) | assumption)
                                                              obtain ⟨ad130, A130_0, c130_0, e130, hx130_0, hl130_0, hi130_0⟩ := at_L1 (Kd.N_reads' HO_9.out).2.2 x10_3 p130 q130
                                                              try clear hx116_0
                                                              repeat clear hHeld
                                                              obtain rfl : (⟨go22, 0, none⟩ : Addr) = ad130 := (by injection e130)
                                                              obtain ⟨ce130, hce130, hMe130, hcc130⟩ := Kd.N_get HO_9.out [] x10_3 p130 (by first | exact q130 | exact of_decide_eq_true (by first | (with_reducible assumption) | assumption) | (have e_ := (Kd.N_reads' HO_9.out).1; omega))
                                                              obtain ⟨ua130_0, uc130_0, rfl, ul130_0, ge130_0⟩ := Kd.FK_slice_open hMe130
                                                              have hv130_0 := hcc130 0 _ rfl
                                                              rw [Nat.add_zero, show ((Kd.slice 5 (Kd.int .u8))).sz = 1 from rfl, Nat.mul_one] at hv130_0
                                                              replace hv130_0 := Option.some.inj (hv130_0.symm.trans hx130_0)
                                                              injection hv130_0 with hva_ hvn_ hvc_
                                                              rw [hva_] at ge130_0
                                                              rw [hvc_] at ul130_0
                                                              have HL130_0 := Aside0.mk (show Kd.V (Kd.int .u8) 5 _ w.heap.size _ _ (rd_L1 x9_24 x10_3) from Kd.V_mk ul130_0 ge130_0)
                                                              clear hva_ hvn_ hvc_ ge130_0 ul130_0
                                                              clear hcc130 hce130
                                                              (first | simp only [add_plain] at hx130_0 | simp only [add_at] at hx130_0 | simp only [Addr.add, Nat.zero_add] at hx130_0 | skip)
                                                              have HR130_0 := Aside0.mk hi130_0
                                                              have HC130_0 := Aside0.mk hl130_0
                                                              clear hi130_0 hl130_0
                                                              replace p130 := eq_true p130
                                                              replace q130 := eq_true q130
                                                              obtain ⟨Ao52, co52, eo52⟩ := Kd.R_slice HO129.out
                                                              subst eo52
                                                              try go_wp2_with (first | (go_at_call 76; (with_reducible refine (edit_Shared_1.calls _ _ y127 _ _ (rd_L1 x9_24 x10_3) true _ ?side1 ?side2 ?side3 ?side4 A44.out).mono ?_); (case side1 => repeat (first | exact (Kd.R_reads' HO129.out).2.2 | (with_reducible refine Kd.C_alloc ?_ _) | (with_reducible refine Kd.C_drewN ?_ _) | (with_reducible refine Kd.C_drew ?_))); (case side2 => exact (Kd.R_reads' HO129.out).2.1); (case side3 => repeat (first | exact (by repeat (first | (with_reducible exact HR130_0.out) | (with_reducible refine Kd.C_alloc ?_ _) | (with_reducible refine Kd.C_drewN ?_ _) | (with_reducible refine Kd.C_drew ?_) | exact HR130_0.out)) | (with_reducible refine Kd.C_alloc ?_ _) | (with_reducible refine Kd.C_drewN ?_ _) | (with_reducible refine Kd.C_drew ?_))); (case side4 => exact HC130_0.out); rintro e w' ⟨rfl, ⟨nd, rfl⟩⟩; (try (rw [drewN_self w51]; generalize hq_ : World.drewN w51 _ = w51; have n0_ : Aside0 (Kd.V (Kd.int .u8) 5 w51 w.heap.size (fun k_ => some k_ ≠ (.slice Ao52 y127.length co52 : Value).ownBlock ∧ some k_ ≠ (.slice (some ad115) x6_2.length co30 : Value).ownBlock ∧ some k_ ≠ (.slice (some ⟨go22, 0, none⟩) x9_24.length co26 : Value).ownBlock) (.slice A126_0 (rd_L1 x6_2 (ji17)).length c126_0) (rd_L1 x6_2 (ji17))) := ⟨by rw [← hq_]; exact (by (with_reducible repeat (first | apply Kd.V_alloc | apply Kd.V_drewN | apply Kd.V_drew)); exact Kd.V_mono HL126_0.out (fun _ hk => ⟨hk.2, ⟨hk.1.1, hk.1.2⟩⟩))⟩; have n1_ : Aside0 (Kd.V (Kd.int .u8) 5 w51 w.heap.size (fun k_ => some k_ ≠ (.slice Ao52 y127.length co52 : Value).ownBlock ∧ some k_ ≠ (.slice (some ad115) x6_2.length co30 : Value).ownBlock ∧ some k_ ≠ (.slice (some ⟨go22, 0, none⟩) x9_24.length co26 : Value).ownBlock) (.slice A130_0 (rd_L1 x9_24 x10_3).length c130_0) (rd_L1 x9_24 x10_3)) := ⟨by rw [← hq_]; exact (by (with_reducible repeat (first | apply Kd.V_alloc | apply Kd.V_drewN | apply Kd.V_drew)); exact Kd.V_mono HL130_0.out (fun _ hk => ⟨hk.1.2, ⟨hk.1.1, hk.2⟩⟩))⟩; have n2_ : Aside0 (Kd.R (Kd.int .u8) 5 w51 w.heap.size (fun _ => True) (.slice Ao52 y127.length co52) y127) := ⟨by rw [← hq_]; exact (by (with_reducible repeat (first | apply Kd.R_alloc | apply Kd.R_drewN | apply Kd.R_drew)); exact HO129.out)⟩; have n3_ : Aside0 (Kd.N (Kd.slice 5 (Kd.int .u8)) 56 w51 w.heap.size (fun k_ => some k_ ≠ (.slice Ao52 y127.length co52 : Value).ownBlock ∧ some k_ ≠ (.slice (some ⟨go22, 0, none⟩) x9_24.length co26 : Value).ownBlock) (.slice (some ad115) x6_2.length co30) x6_2) := ⟨by rw [← hq_]; exact (by (with_reducible repeat (first | apply Kd.N_alloc | apply Kd.N_drewN | apply Kd.N_drew)); exact Kd.N_mono HO_6.out (fun _ hk => ⟨hk.2, hk.1⟩))⟩; have n4_ : Aside0 (Kd.N (Kd.slice 5 (Kd.int .u8)) 56 w51 w.heap.size (fun k_ => some k_ ≠ (.slice Ao52 y127.length co52 : Value).ownBlock ∧ some k_ ≠ (.slice (some ad115) x6_2.length co30 : Value).ownBlock) (.slice (some ⟨go22, 0, none⟩) x9_24.length co26) x9_24) := ⟨by rw [← hq_]; exact (by (with_reducible repeat (first | apply Kd.N_alloc | apply Kd.N_drewN | apply Kd.N_drew)); exact Kd.N_mono HO_9.out (fun _ hk => ⟨hk.2, hk.1⟩))⟩; have n5_ : Aside0 (Below w.heap.size w w51) := ⟨by rw [← hq_]; exact (by repeat (first | (with_reducible first | exact HB.out | apply below_alloc | apply pw_below_drewN | apply below_drew1) | exact HB.out))⟩; have n6_ : Aside0 (Kd.C (Kd.int .u8) w51 A130_0 (rd_L1 x9_24 x10_3).length (rd_L1 x9_24 x10_3)) := ⟨by rw [← hq_]; exact (by repeat (first | (with_reducible exact HR130_0.out) | (with_reducible refine Kd.C_alloc ?_ _) | (with_reducible refine Kd.C_drewN ?_ _) | (with_reducible refine Kd.C_drew ?_) | exact HR130_0.out))⟩; clear HL126_0 HL130_0 HO129 HO_6 HO_9 HB HR130_0 hq_; have HL126_0 := n0_; have HL130_0 := n1_; have HO129 := n2_; have HO_6 := n3_; have HO_9 := n4_; have HB := n5_; have HR130_0 := n6_; clear n0_ n1_ n2_ n3_ n4_ n5_ n6_)); have p46 : 0 ≤ (x10_3 : Int) := of_decide_eq_true (by first | (with_reducible assumption) | assumption); have q46 : (x10_3 : Int) < ((x9_24.length : Int) : Int) := of_decide_eq_true (by first | (with_reducible assumption) | assumption); obtain ⟨ce46, hcl46, hM46, hcc46, hfr46⟩ := Kd.N_elem HO_9.out [] (x10_3 : Int) p46 q46; obtain ⟨ua46_0, uc46_0, rfl, ul46_0, ge46_0⟩ := Kd.FK_slice_open hM46; have hx46_0 := hcc46 0 _ rfl; have hf46_0 := hfr46 0; (try simp only [show ((Kd.slice 5 (Kd.int .u8))).sz = 1 from rfl, Nat.mul_one, Nat.add_zero] at hx46_0); (try simp only [show ((Kd.slice 5 (Kd.int .u8))).sz = 1 from rfl, Nat.mul_one, Nat.add_zero] at hf46_0); clear hcl46 hcc46 hfr46 hM46; replace p46 := eq_true p46; replace q46 := eq_true q46; have HX53 := Aside0.mk (show Kd.N (Kd.slice 5 (Kd.int .u8)) 56 w51 w.heap.size (fun k_ => some k_ ≠ (.slice (some ad115) x6_2.length co30 : Value).ownBlock) (.slice (some ⟨go22, 0, none⟩) x9_24.length co26) x9_24 from (by (with_reducible repeat (first | apply Kd.N_alloc | apply Kd.N_drewN | apply Kd.N_drew)); exact Kd.N_mono HO_9.out (by first | exact fun _ hk => hk.1 | (intro _ hk; (repeat' apply And.intro) <;> first | exact hk | exact hk.1 | exact hk.2 | exact hk.1.1 | exact hk.1.2 | exact hk.2.1 | exact hk.2.2 | exact hk.1.1.1 | exact hk.1.1.2 | exact hk.1.2.1 | exact hk.1.2.2 | exact hk.2.1.1 | exact hk.2.1.2 | exact hk.2.2.1 | exact hk.2.2.2)))); obtain ⟨ce53, hcl53, hM53, hcc53, hfr53⟩ := Kd.N_elem HX53.out [] (x10_3 : Int) (of_decide_eq_true (by first | (with_reducible assumption) | assumption)) (by have h_ : (x10_3 : Int) < ((x9_24.length : Int) : Int) := of_decide_eq_true (by first | (with_reducible assumption) | assumption); first | exact h_ | (have e_ := (Kd.N_reads' HO_9.out).1; omega) | simpa using h_); obtain ⟨ua53_0, uc53_0, rfl, ul53_0, ge53_0⟩ := Kd.FK_slice_open hM53; have HP53 := Kd.N_seg HX53.out (x10_3 : Int) (of_decide_eq_true (by first | (with_reducible assumption) | assumption)) (by have h_ : (x10_3 : Int) < ((x9_24.length : Int) : Int) := of_decide_eq_true (by first | (with_reducible assumption) | assumption); first | exact h_ | (have e_ := (Kd.N_reads' HO_9.out).1; omega) | simpa using h_) (seg := [.slice Ao52 y127.length co52]) (j := 0) hcl53 hcc53 (show 1 ≤ 1 from by decide) (x' := y127) (Kd.FK_slice_mk (Kd.R_reads' (Kd.R_mono (ok' := (fun k_ => ((fun k_ => some k_ ≠ (.slice (some ad115) x6_2.length co30 : Value).ownBlock)) k_ ∧ k_ ≠ go22)) (Kd.R_apart' (Kd.R_apart' (HO129.out) (Kd.N_typed HO_6.out) (by decide)) (Kd.N_typed HO_9.out) (by decide)) (fun k_ hk => ⟨hk.1.2, fun e_ => (hk.2) (by rw [e_]; rfl)⟩))).2.1 (Kd.R_F (Kd.R_mono (ok' := (fun k_ => ((fun k_ => some k_ ≠ (.slice (some ad115) x6_2.length co30 : Value).ownBlock)) k_ ∧ k_ ≠ go22)) (Kd.R_apart' (Kd.R_apart' (HO129.out) (Kd.N_typed HO_6.out) (by decide)) (Kd.N_typed HO_9.out) (by decide)) (fun k_ hk => ⟨hk.1.2, fun e_ => (hk.2) (by rw [e_]; rfl)⟩)))) (fun _ hk => hk); have hx53_0 := hcc53 0 _ rfl; (try simp only [show ((Kd.slice 5 (Kd.int .u8))).sz = 1 from rfl, Nat.mul_one, Nat.add_zero] at hx53_0); have hf53_0 := hfr53 0; (try simp only [show ((Kd.slice 5 (Kd.int .u8))).sz = 1 from rfl, Nat.mul_one, Nat.add_zero] at hf53_0); clear hcl53 hcc53 hfr53 hM53; (try simp only [show ((Kd.slice 5 (Kd.int .u8))).sz = 1 from rfl, Nat.mul_one, Nat.add_zero] at HP53); (try simp only [show ((Kd.slice 5 (Kd.int .u8))).sz = 1 from rfl, Nat.mul_one, Nat.add_zero] at HP53)) | ((with_reducible refine gate_store (t := 56) (p := 97) rfl ?_); refine store_event (t := 56) (p := 97) (v := ?vo_w54) (w1 := (w51.setCell ⟨go22, (x10_3 : Int).toNat, none⟩ (.slice Ao52 y127.length co52))) ?hg ?ho ?hn ?hr ?_; (case ho => rfl); (case hg => rfl); (case hn => rfl); (case hr => first | (go_simp; done) | (go_simp; rfl)); intro w54 hw; have hg : w51.grownBy w54 (some go22) := (by rw [hw]; exact HP53.2); have hp_ : Kd.N (Kd.slice 5 (Kd.int .u8)) 56 w54 w.heap.size (fun k_ => some k_ ≠ (.slice (some ad115) x6_2.length co30 : Value).ownBlock) (.slice (some ⟨go22, 0, none⟩) x9_24.length co26) y132 := (by rw [hw, Ny132.out]; exact HP53.1); clear HP53; have n0_ := Aside0.mk (Kd.N_afterv (v := (.slice (some ⟨go22, 0, none⟩) x9_24.length co26)) (v1 := (.slice (some ⟨go22, 0, none⟩) x9_24.length co26)) (ok := (fun k_ => some k_ ≠ (.slice Ao52 y127.length co52 : Value).ownBlock)) (by (with_reducible repeat (first | apply Kd.N_alloc | apply Kd.N_drewN | apply Kd.N_drew)); exact Kd.N_mono HO_6.out (by first | exact fun _ hk => ⟨hk.2, hk.1⟩ | (intro _ hk; (repeat' apply And.intro) <;> first | exact hk | exact hk.1 | exact hk.2 | exact hk.1.1 | exact hk.1.2 | exact hk.2.1 | exact hk.2.2 | exact hk.1.1.1 | exact hk.1.1.2 | exact hk.1.2.1 | exact hk.1.2.2 | exact hk.2.1.1 | exact hk.2.1.2 | exact hk.2.2.1 | exact hk.2.2.2))) hg (.inl rfl)); have n1_ := Aside0.mk (hp_); have n2_ := Aside0.mk (Kd.V_afterv (v := (.slice (some ⟨go22, 0, none⟩) x9_24.length co26)) (v1 := (.slice (some ⟨go22, 0, none⟩) x9_24.length co26)) (ok := (fun k_ => some k_ ≠ (.slice (some ad115) x6_2.length co30 : Value).ownBlock ∧ some k_ ≠ (.slice Ao52 y127.length co52 : Value).ownBlock)) (by (with_reducible repeat (first | apply Kd.V_alloc | apply Kd.V_drewN | apply Kd.V_drew)); exact Kd.V_mono HL126_0.out (by first | exact fun _ hk => ⟨⟨hk.1.1, hk.2⟩, hk.1.2⟩ | (intro _ hk; (repeat' apply And.intro) <;> first | exact hk | exact hk.1 | exact hk.2 | exact hk.1.1 | exact hk.1.2 | exact hk.2.1 | exact hk.2.2 | exact hk.1.1.1 | exact hk.1.1.2 | exact hk.1.2.1 | exact hk.1.2.2 | exact hk.2.1.1 | exact hk.2.1.2 | exact hk.2.2.1 | exact hk.2.2.2))) hg (.inl rfl)); have n3_ := Aside0.mk (Kd.V_afterv (v := (.slice (some ⟨go22, 0, none⟩) x9_24.length co26)) (v1 := (.slice (some ⟨go22, 0, none⟩) x9_24.length co26)) (ok := (fun k_ => some k_ ≠ (.slice (some ad115) x6_2.length co30 : Value).ownBlock ∧ some k_ ≠ (.slice Ao52 y127.length co52 : Value).ownBlock)) (by (with_reducible repeat (first | apply Kd.V_alloc | apply Kd.V_drewN | apply Kd.V_drew)); (first | exact HL130_0.out | exact Kd.V_mono HL130_0.out (by intro _ hk; (repeat' apply And.intro) <;> first | exact hk | exact hk.1 | exact hk.2 | exact hk.1.1 | exact hk.1.2 | exact hk.2.1 | exact hk.2.2 | exact hk.1.1.1 | exact hk.1.1.2 | exact hk.1.2.1 | exact hk.1.2.2 | exact hk.2.1.1 | exact hk.2.1.2 | exact hk.2.2.1 | exact hk.2.2.2))) hg (.inl rfl)); have n4_ := Aside0.mk ((by rw [hw]; exact below_set (HB.out) GB22.out : Below w.heap.size w w54)); clear HO_6; clear HO_9; clear HL126_0; clear HL130_0; clear HB; clear HO129; have HO_6 := n0_; have HO_9 := n1_; have HL126_0 := n2_; have HL130_0 := n3_; have HB := n4_; clear n0_ n1_ n2_ n3_ n4_; clear hg hw hp_))
                                                              (try simp only [← hl9_24])
                                                              first | go_roundg kj24 | ((simp only [← hji6, ← hji17]); go_roundg kj24)
                                                              case measure => have := HJ2.out; have := HK2.out; have := HK3.out; have := HJ24.out; omega
                                                              case rel => exact ⟨(y132), (wrap64 (x10_3 - 1)), (by first | rfl | (simp; done) | (simp [*]; done)), (by first | exact H' | ((simp only [hji6, hji17]); exact H') | (have h_ := H'.out; simp only [← hji6, ← hji17] at h_ ⊢; exact ⟨h_⟩)), ⟨by have := HJ2.out; have := HK2.out; have := HK3.out; have := HJ24.out; omega⟩, ⟨by (try simp only [hl9_24]); (with_reducible repeat (first | apply Kd.N_alloc | apply Kd.N_drewN | apply Kd.N_drew)); exact Kd.N_mono HO_6.out (fun _ hk => hk.2)⟩, ⟨by (try simp only [hl9_24]); (with_reducible repeat (first | apply Kd.N_alloc | apply Kd.N_drewN | apply Kd.N_drew)); exact HO_9.out⟩, ⟨by repeat (first | (with_reducible first | exact HB.out | apply below_alloc | apply pw_below_drewN | apply below_drew1) | exact HB.out)⟩⟩
                                                            · replace c45 := Bool.eq_false_iff.mpr c45
                                                              subst c45
                                                              have H1 : (edit_Shared.l1 kj24 l0 l1 x6_2 x8_2 x9_24 (wrap64 (x10_3 - 1))) = some (r1, r2) := by rw [if_neg (show ¬ (false = true) by decide)] at H; exact H
                                                              clear H
                                                              have H := H1
                                                              clear H1
                                                              have H' := Aside0.mk H
                                                              clear H
                                                              try go_wp2
                                                              have n0_ := Aside0.mk (Kd.N_drew HO_6.out)
                                                              have n1_ := Aside0.mk (Kd.N_drew HO_9.out)
                                                              have n2_ := Aside0.mk (below_drew1 HB.out)
                                                              clear HO_6
                                                              clear HO_9
                                                              clear HB
                                                              have HO_6 := n0_
                                                              have HO_9 := n1_
                                                              have HB := n2_
                                                              clear n0_ n1_ n2_
                                                              have p120 : 0 ≤ (x8_2 : Int) := of_decide_eq_true (by first | (with_reducible assumption) | assumption)
                                                              have q120 : x8_2 < (l0.length : Int) := of_decide_eq_true (by first | (with_reducible assumption) | assumption)
                                                              obtain ⟨ad120, e120, hx120_0⟩ := Kd.at_int HR0.out x8_2 p120 q120
                                                              have hw120_0 := hx120_0
                                                              cases e120
                                                              replace hx120_0 := (HB.out.cell (World.block_lt_of_cell? w _ hx120_0)).trans hx120_0
                                                              replace p120 := eq_true p120
                                                              replace q120 := eq_true q120
                                                              have p121 : 0 ≤ (x10_3 : Int) := of_decide_eq_true (by first | (with_reducible assumption) | assumption)
                                                              have q121 : x10_3 < (l1.length : Int) := of_decide_eq_true (by first | (with_reducible assumption) | assumption)
                                                              obtain ⟨ad121, e121, hx121_0⟩ := Kd.at_int HR1.out x10_3 p121 q121
                                                              have hw121_0 := hx121_0
                                                              cases e121
                                                              replace hx121_0 := (HB.out.cell (World.block_lt_of_cell? w _ hx121_0)).trans hx121_0
                                                              replace p121 := eq_true p121
                                                              replace q121 := eq_true q121
                                                              refine start_ (n := 9) (S := fun w' => w'.cell? (ad120.add (x8_2).toNat) = some (.int .u8 (rd l0 x8_2)) ∧ w'.cell? (ad121.add (x10_3).toNat) = some (.int .u8 (rd l1 x10_3))) (ds := []) #[false, false, false, false, false, false, false, false, false] (by kernel_rfl) rfl rfl ⟨((HB.out.cell (World.block_lt_of_cell? w _ hw120_0)).trans hw120_0), ((HB.out.cell (World.block_lt_of_cell? w _ hw121_0)).trans hw121_0)⟩ (fun hHeld => ?_); refine with_tabW edit_Shared.tab15 edit_Shared.bits15 (fun HT_ HW_ => ?_)
                                                              generalize wc.drew = w55 at HO_6 HO_9 HB hx120_0 hx121_0 hHeld ⊢
                                                              refine pure_ (i := 0) (N := some 67) (v := ?_) (a' := ?_) #[true, false, false, false, false, false, false, false, false] rfl rfl (any_of HT_.out (by kernel_rfl)) (fun _ _ _ h => h) (Or.inl ⟨by rfl, ?_⟩) ?_ ?_
                                                              rotate_left
                                                              · intro w'
                                                                go_simp
                                                                with_reducible rfl
                                                              rotate_left
                                                              · simp only [Act.put, List.setIfInBounds_toArray, List.set_cons_zero, List.set_cons_succ, i64_w, i32_w]
                                                                rfl
                                                              refine pure_ (i := 1) (N := some 68) (v := ?_) (a' := ?_) #[true, true, false, false, false, false, false, false, false] rfl rfl (any_of HT_.out (by kernel_rfl)) (fun _ _ _ h => h) (Or.inl ⟨by rfl, ?_⟩) ?_ ?_
                                                              rotate_left
                                                              · intro w'
                                                                go_simp
                                                                with_reducible rfl
                                                              rotate_left
                                                              · simp only [Act.put, List.setIfInBounds_toArray, List.set_cons_zero, List.set_cons_succ, i64_w, i32_w]
                                                                rfl
                                                              refine pure_ (i := 2) (N := some 69) (v := ?_) (a' := ?_) #[true, true, true, false, false, false, false, false, false] rfl rfl (any_of HT_.out (by kernel_rfl)) (fun _ _ _ h => h) (Or.inl ⟨by rfl, ?_⟩) ?_ ?_
                                                              rotate_left
                                                              · intro w'
                                                                go_simp
                                                                with_reducible rfl
                                                              rotate_left
                                                              · simp only [Act.put, List.setIfInBounds_toArray, List.set_cons_zero, List.set_cons_succ, i64_w, i32_w]
                                                                rfl
                                                              refine pure_ (i := 4) (N := some 71) (v := ?_) (a' := ?_) #[true, true, true, false, true, false, false, false, false] rfl rfl (any_of HT_.out (by kernel_rfl)) (fun _ _ _ h => h) (Or.inl ⟨by rfl, ?_⟩) ?_ ?_
                                                              rotate_left
                                                              · intro w'
                                                                go_simp
                                                                with_reducible rfl
                                                              rotate_left
                                                              · simp only [Act.put, List.setIfInBounds_toArray, List.set_cons_zero, List.set_cons_succ, i64_w, i32_w]
                                                                rfl
                                                              refine pure_ (i := 5) (N := some 72) (v := ?_) (a' := ?_) #[true, true, true, false, true, true, false, false, false] rfl rfl (any_of HT_.out (by kernel_rfl)) (fun _ _ _ h => h) (Or.inl ⟨by rfl, ?_⟩) ?_ ?_
                                                              rotate_left
                                                              · intro w'
                                                                go_simp
                                                                with_reducible rfl
                                                              rotate_left
                                                              · simp only [Act.put, List.setIfInBounds_toArray, List.set_cons_zero, List.set_cons_succ, i64_w, i32_w]
                                                                rfl
                                                              refine pure_ (i := 6) (N := some 73) (v := ?_) (a' := ?_) #[true, true, true, false, true, true, true, false, false] rfl rfl (any_of HT_.out (by kernel_rfl)) (fun _ _ _ h => h) (Or.inl ⟨by rfl, ?_⟩) ?_ ?_
                                                              rotate_left
                                                              · intro w'
                                                                go_simp
                                                                with_reducible rfl
                                                              rotate_left
                                                              · simp only [Act.put, List.setIfInBounds_toArray, List.set_cons_zero, List.set_cons_succ, i64_w, i32_w]
                                                                rfl
                                                              refine take_ (i := 3) (N := some 70) (v := ?_) (a' := ?_) #[true, true, true, true, true, true, true, false, false] rfl rfl (take_ofW HT_.out HW_.out (by kernel_rfl)) (fun _ _ _ h => h) (Or.inl ⟨by rfl, ?_⟩) hHeld ?_ ?_
                                                              rotate_left
                                                              · rintro w' ⟨s0, s1⟩
                                                                go_simp
                                                                with_reducible rfl
                                                              rotate_left
                                                              · simp only [Act.put, List.setIfInBounds_toArray, List.set_cons_zero, List.set_cons_succ, i64_w, i32_w]
                                                                rfl
                                                              refine take_ (i := 7) (N := some 74) (v := ?_) (a' := ?_) #[true, true, true, true, true, true, true, true, false] rfl rfl (take_ofW HT_.out HW_.out (by kernel_rfl)) (fun _ _ _ h => h) (Or.inl ⟨by rfl, ?_⟩) hHeld ?_ ?_
                                                              rotate_left
                                                              · rintro w' ⟨s0, s1⟩
                                                                go_simp
                                                                with_reducible rfl
                                                              rotate_left
                                                              · simp only [Act.put, List.setIfInBounds_toArray, List.set_cons_zero, List.set_cons_succ, i64_w, i32_w]
                                                                rfl
                                                              refine pure_ (i := 8) (N := some 75) (v := ?_) (a' := ?_) #[true, true, true, true, true, true, true, true, true] rfl rfl (any_of HT_.out (by kernel_rfl)) (fun _ _ _ h => h) (Or.inl ⟨by rfl, ?_⟩) ?_ ?_
                                                              rotate_left
                                                              · intro w'
                                                                go_simp
                                                                with_reducible rfl
                                                              rotate_left
                                                              · simp only [Act.put, List.setIfInBounds_toArray, List.set_cons_zero, List.set_cons_succ, i64_w, i32_w]
                                                                rfl
                                                              refine done_ (done_of HT_.out (by kernel_rfl)) ?_
                                                              try go_wp2
                                                              have n0_ := Aside0.mk (Kd.N_drew HO_6.out)
                                                              have n1_ := Aside0.mk (Kd.N_drew HO_9.out)
                                                              have n2_ := Aside0.mk (below_drew1 HB.out)
                                                              clear HO_6
                                                              clear HO_9
                                                              clear HB
                                                              have HO_6 := n0_
                                                              have HO_9 := n1_
                                                              have HB := n2_
                                                              clear n0_ n1_ n2_
                                                              have p122 : 0 ≤ (x8_2 : Int) := of_decide_eq_true (by first | (with_reducible assumption) | assumption)
                                                              have q122 : x8_2 < (l0.length : Int) := of_decide_eq_true (by first | (with_reducible assumption) | assumption)
                                                              obtain ⟨ad122, e122, hx122_0⟩ := Kd.at_int HR0.out x8_2 p122 q122
                                                              have hw122_0 := hx122_0
                                                              obtain rfl : ad120 = ad122 := (by injection e122)
                                                              replace hx122_0 := (HB.out.cell (World.block_lt_of_cell? w _ hx122_0)).trans hx122_0
                                                              replace p122 := eq_true p122
                                                              replace q122 := eq_true q122
                                                              have p126 : 0 ≤ ((ji17) : Int) := of_decide_eq_true (by first | (with_reducible assumption) | assumption)
                                                              have q126 : (ji17) < (x6_2.length : Int) := of_decide_eq_true (by first | (with_reducible assumption) | assumption)
                                                              obtain ⟨ad126, A126_0, c126_0, e126, hx126_0, hl126_0, hi126_0⟩ := at_L1 (Kd.N_reads' HO_6.out).2.2 (ji17) p126 q126
                                                              obtain rfl : ad115 = ad126 := (by injection e126)
                                                              obtain ⟨ce126, hce126, hMe126, hcc126⟩ := Kd.N_get HO_6.out [] (ji17) p126 (by first | exact q126 | exact of_decide_eq_true (by first | (with_reducible assumption) | assumption) | (have e_ := (Kd.N_reads' HO_6.out).1; omega))
                                                              obtain ⟨ua126_0, uc126_0, rfl, ul126_0, ge126_0⟩ := Kd.FK_slice_open hMe126
                                                              have hv126_0 := hcc126 0 _ rfl
                                                              rw [Nat.add_zero, show ((Kd.slice 5 (Kd.int .u8))).sz = 1 from rfl, Nat.mul_one] at hv126_0
                                                              replace hv126_0 := Option.some.inj (hv126_0.symm.trans hx126_0)
                                                              injection hv126_0 with hva_ hvn_ hvc_
                                                              rw [hva_] at ge126_0
                                                              rw [hvc_] at ul126_0
                                                              have HL126_0 := Aside0.mk (show Kd.V (Kd.int .u8) 5 _ w.heap.size _ _ (rd_L1 x6_2 (ji17)) from Kd.V_mk ul126_0 ge126_0)
                                                              clear hva_ hvn_ hvc_ ge126_0 ul126_0
                                                              clear hcc126 hce126
                                                              have HR126_0 := Aside0.mk hi126_0
                                                              have HC126_0 := Aside0.mk hl126_0
                                                              clear hi126_0 hl126_0
                                                              replace p126 := eq_true p126
                                                              replace q126 := eq_true q126
                                                              refine start_ (n := 12) (S := fun w' => w'.cell? (ad120.add (x8_2).toNat) = some (.int .u8 (rd l0 x8_2)) ∧ w'.cell? (ad115.add ((ji17)).toNat) = some (.slice A126_0 (rd_L1 x6_2 (ji17)).length c126_0)) (ds := [10]) #[false, false, false, false, false, false, false, false, false, false, false, false] (by kernel_rfl) rfl rfl ⟨((HB.out.cell (World.block_lt_of_cell? w _ hw122_0)).trans hw122_0), hx126_0⟩ (fun hHeld => ?_); refine with_tabW edit_Shared.tab16 edit_Shared.bits16 (fun HT_ HW_ => ?_)
                                                              generalize w55.drew = w56 at HO_6 HO_9 HB HL126_0 HR126_0 hx122_0 hx126_0 hHeld ⊢
                                                              refine pure_ (i := 0) (N := some 76) (v := ?_) (a' := ?_) #[true, false, false, false, false, false, false, false, false, false, false, false] rfl rfl (any_of HT_.out (by kernel_rfl)) (fun _ _ _ h => h) (Or.inl ⟨by rfl, ?_⟩) ?_ ?_
                                                              rotate_left
                                                              · intro w'
                                                                go_simp
                                                                with_reducible rfl
                                                              rotate_left
                                                              · simp only [Act.put, List.setIfInBounds_toArray, List.set_cons_zero, List.set_cons_succ, i64_w, i32_w]
                                                                rfl
                                                              refine pure_ (i := 1) (N := some 77) (v := ?_) (a' := ?_) #[true, true, false, false, false, false, false, false, false, false, false, false] rfl rfl (any_of HT_.out (by kernel_rfl)) (fun _ _ _ h => h) (Or.inl ⟨by rfl, ?_⟩) ?_ ?_
                                                              rotate_left
                                                              · intro w'
                                                                go_simp
                                                                with_reducible rfl
                                                              rotate_left
                                                              · simp only [Act.put, List.setIfInBounds_toArray, List.set_cons_zero, List.set_cons_succ, i64_w, i32_w]
                                                                rfl
                                                              refine pure_ (i := 2) (N := some 78) (v := ?_) (a' := ?_) #[true, true, true, false, false, false, false, false, false, false, false, false] rfl rfl (any_of HT_.out (by kernel_rfl)) (fun _ _ _ h => h) (Or.inl ⟨by rfl, ?_⟩) ?_ ?_
                                                              rotate_left
                                                              · intro w'
                                                                go_simp
                                                                with_reducible rfl
                                                              rotate_left
                                                              · simp only [Act.put, List.setIfInBounds_toArray, List.set_cons_zero, List.set_cons_succ, i64_w, i32_w]
                                                                rfl
                                                              refine pure_ (i := 5) (N := some 81) (v := ?_) (a' := ?_) #[true, true, true, false, false, true, false, false, false, false, false, false] rfl rfl (any_of HT_.out (by kernel_rfl)) (fun _ _ _ h => h) (Or.inl ⟨by rfl, ?_⟩) ?_ ?_
                                                              rotate_left
                                                              · intro w'
                                                                go_simp
                                                                with_reducible rfl
                                                              rotate_left
                                                              · simp only [Act.put, List.setIfInBounds_toArray, List.set_cons_zero, List.set_cons_succ, i64_w, i32_w]
                                                                rfl
                                                              refine pure_ (i := 6) (N := some 82) (v := ?_) (a' := ?_) #[true, true, true, false, false, true, true, false, false, false, false, false] rfl rfl (any_of HT_.out (by kernel_rfl)) (fun _ _ _ h => h) (Or.inl ⟨by rfl, ?_⟩) ?_ ?_
                                                              rotate_left
                                                              · intro w'
                                                                go_simp
                                                                with_reducible rfl
                                                              rotate_left
                                                              · simp only [Act.put, List.setIfInBounds_toArray, List.set_cons_zero, List.set_cons_succ, i64_w, i32_w]
                                                                rfl
                                                              refine pure_ (i := 7) (N := some 83) (v := ?_) (a' := ?_) #[true, true, true, false, false, true, true, true, false, false, false, false] rfl rfl (any_of HT_.out (by kernel_rfl)) (fun _ _ _ h => h) (Or.inl ⟨by rfl, ?_⟩) ?_ ?_
                                                              rotate_left
                                                              · intro w'
                                                                go_simp
                                                                with_reducible rfl
                                                              rotate_left
                                                              · simp only [Act.put, List.setIfInBounds_toArray, List.set_cons_zero, List.set_cons_succ, i64_w, i32_w]
                                                                rfl
                                                              refine pure_ (i := 8) (N := some 84) (v := ?_) (a' := ?_) #[true, true, true, false, false, true, true, true, true, false, false, false] rfl rfl (any_of HT_.out (by kernel_rfl)) (fun _ _ _ h => h) (Or.inl ⟨by rfl, ?_⟩) ?_ ?_
                                                              rotate_left
                                                              · intro w'
                                                                go_simp
                                                                with_reducible rfl
                                                              rotate_left
                                                              · simp only [Act.put, List.setIfInBounds_toArray, List.set_cons_zero, List.set_cons_succ, i64_w, i32_w]
                                                                rfl
                                                              refine take_ (i := 3) (N := some 79) (v := ?_) (a' := ?_) #[true, true, true, true, false, true, true, true, true, false, false, false] rfl rfl (take_ofW HT_.out HW_.out (by kernel_rfl)) (fun _ _ _ h => h) (Or.inl ⟨by rfl, ?_⟩) hHeld ?_ ?_
                                                              rotate_left
                                                              · rintro w' ⟨s0, s1⟩
                                                                go_simp
                                                                with_reducible rfl
                                                              rotate_left
                                                              · simp only [Act.put, List.setIfInBounds_toArray, List.set_cons_zero, List.set_cons_succ, i64_w, i32_w]
                                                                rfl
                                                              refine take_ (i := 9) (N := some 85) (v := ?_) (a' := ?_) #[true, true, true, true, false, true, true, true, true, true, false, false] rfl rfl (take_ofW HT_.out HW_.out (by kernel_rfl)) (fun _ _ _ h => h) (Or.inl ⟨by rfl, ?_⟩) hHeld ?_ ?_
                                                              rotate_left
                                                              · rintro w' ⟨s0, s1⟩
                                                                go_simp
                                                                with_reducible rfl
                                                              rotate_left
                                                              · simp only [Act.put, List.setIfInBounds_toArray, List.set_cons_zero, List.set_cons_succ, i64_w, i32_w]
                                                                rfl
                                                              refine one_ (i := 4) (N := some 80) #[true, true, true, true, true, true, true, true, true, true, false, false] rfl rfl (one_of HT_.out (by kernel_rfl)) (by decide) (fun K hK => ?_)
                                                              refine Kd.R_lit_step (Kd.int .u8) _ 5 ?hg (N := 80) ?hd (xs := ([rd l0 x8_2] : List Int)) (inner := [.int .u8 (rd l0 x8_2)]) (ok := fun _ => True) (okp := fun _ => True) ?hr ?hp (fun _ hk => hk) trivial (Below.refl _ _) (Nat.le_refl _) (by simp) ?_; (case hd => rfl); (case hg => rfl); (case hr => first | (go_simp; done) | (go_simp; rfl)); (case hp => exact (Reps.one (show Kd.M (Kd.int .u8) _ _ _ (rd l0 x8_2) [.int .u8 (rd l0 x8_2)] from rfl) (Reps.none _ _)))
                                                              intro v124 w57 ho58 hb hg_ hnew_
                                                              have HS1_ := (hb.cell (World.block_lt_of_cell? _ _ (hHeld.2))).trans (hHeld.2)
                                                              clear hg_ hnew_
                                                              (first | rw [← Ny123.out] at ho58 | (simp only [Int.reduceToNat] at ho58; rw [← Ny123.out] at ho58))
                                                              have n0_ := Aside0.mk (Kd.N_elder' (by (with_reducible repeat (first | apply Kd.N_alloc | apply Kd.N_drewN | apply Kd.N_drew)); exact HO_6.out) (Kd.R_base ho58) hb)
                                                              have n1_ := Aside0.mk (Kd.N_elder' (by (with_reducible repeat (first | apply Kd.N_alloc | apply Kd.N_drewN | apply Kd.N_drew)); exact HO_9.out) (Kd.R_base ho58) hb)
                                                              have n2_ := Aside0.mk (Kd.V_elder' (by (with_reducible repeat (first | apply Kd.V_alloc | apply Kd.V_drewN | apply Kd.V_drew)); exact HL126_0.out) (Kd.R_base ho58) hb)
                                                              have n3_ := Aside0.mk (Kd.R_lower ho58 (below_size (by repeat (first | (with_reducible first | exact HB.out | apply below_alloc | apply pw_below_drewN | apply below_drew1) | exact HB.out))))
                                                              have n4_ := Aside0.mk (Kd.C_below (by repeat (first | (with_reducible exact HR126_0.out) | (with_reducible refine Kd.C_alloc ?_ _) | (with_reducible refine Kd.C_drewN ?_ _) | (with_reducible refine Kd.C_drew ?_) | exact HR126_0.out)) hb)
                                                              have n5_ := Aside0.mk (below_step (by repeat (first | (with_reducible first | exact HB.out | apply below_alloc | apply pw_below_drewN | apply below_drew1) | exact HB.out)) hb)
                                                              clear HO_6
                                                              clear HO_9
                                                              clear HL126_0
                                                              clear HR126_0
                                                              clear HB
                                                              have HO_6 := n0_
                                                              have HO_9 := n1_
                                                              have HL126_0 := n2_
                                                              have HO125 := n3_
                                                              have HR126_0 := n4_
                                                              have HB := n5_
                                                              clear n0_ n1_ n2_ n3_ n4_ n5_
                                                              clear hb ho58
                                                              refine hK.out _ _ ⟨((HB.out.cell (World.block_lt_of_cell? w _ hw122_0)).trans hw122_0), HS1_⟩ (fun hHeld => ?_)
                                                              clear hK K
                                                              refine norm_ (a' := ?_) ?_ ?_
                                                              rotate_left
                                                              · show Act.put _ (some 80) _ = _
                                                                simp only [Act.put, List.setIfInBounds_toArray, List.set_cons_zero, List.set_cons_succ, i64_w, i32_w]
                                                                rfl
                                                              refine last_ (i := 10) (N := some 86) #[true, true, true, true, true, true, true, true, true, true, true, false] rfl rfl (one_of HT_.out (by kernel_rfl)) (by decide) (fun K hK => ?_)
                                                              refine Kd.R_append_rows_step (Kd.int .u8) (w0 := w) w.heap.size (by rfl) (.tmp 80) (.tmp 85) 56 5 (.int .u8 0) 1 rfl Try.underlying56 info5 rfl (by decide) (by omega) v124 y123 (rd_L1 x6_2 (ji17)) _ _ _ (fun _ => True) (fun _ => False) rfl rfl ?aO ?aR (fun _ _ h => h) (fun _ h => h.elim) ?aF ?aB ?aS ?aL ?_
                                                              (case aR => repeat (first | exact (by repeat (first | (with_reducible exact HR126_0.out) | (with_reducible refine Kd.C_alloc ?_ _) | (with_reducible refine Kd.C_drewN ?_ _) | (with_reducible refine Kd.C_drew ?_) | exact HR126_0.out)) | (with_reducible refine Kd.C_alloc ?_ _) | (with_reducible refine Kd.C_drewN ?_ _) | (with_reducible refine Kd.C_drew ?_)))
                                                              (case aB => exact (by repeat (first | (with_reducible first | exact HB.out | apply below_alloc | apply pw_below_drewN | apply below_drew1) | exact HB.out)))
                                                              (case aF => exact (fun _ _ => trivial))
                                                              (case aO => exact (by (with_reducible repeat (first | apply Kd.R_alloc | apply Kd.R_drewN | apply Kd.R_drew)); exact HO125.out))
                                                              (case aS => exact (below_size (by repeat (first | (with_reducible first | exact HB.out | apply below_alloc | apply pw_below_drewN | apply below_drew1) | exact HB.out))))
                                                              (case aL => have := LMc42.out; omega)
                                                              intro v128 w59 ho hb hg hat
                                                              rw [← Ny127.out] at ho
                                                              have n0_ := Aside0.mk (Kd.N_afterv (ok := (fun k_ => some k_ ≠ (.slice (some ⟨go22, 0, none⟩) x9_24.length co26 : Value).ownBlock)) (by (with_reducible repeat (first | apply Kd.N_alloc | apply Kd.N_drewN | apply Kd.N_drew)); exact HO_6.out) hg hat)
                                                              have n1_ := Aside0.mk (Kd.N_afterv (ok := (fun k_ => some k_ ≠ (.slice (some ad115) x6_2.length co30 : Value).ownBlock)) (by (with_reducible repeat (first | apply Kd.N_alloc | apply Kd.N_drewN | apply Kd.N_drew)); exact HO_9.out) hg hat)
                                                              have n2_ := Aside0.mk (Kd.V_afterv (ok := (fun k_ => some k_ ≠ (.slice (some ad115) x6_2.length co30 : Value).ownBlock ∧ some k_ ≠ (.slice (some ⟨go22, 0, none⟩) x9_24.length co26 : Value).ownBlock)) (by (with_reducible repeat (first | apply Kd.V_alloc | apply Kd.V_drewN | apply Kd.V_drew)); exact Kd.V_mono HL126_0.out (fun _ hk => ⟨⟨hk.1.2, hk.1.1⟩, hk.2⟩)) hg hat)
                                                              have n3_ := Aside0.mk (hb)
                                                              have n4_ := Aside0.mk (ho)
                                                              clear HO_6
                                                              clear HO_9
                                                              clear HL126_0
                                                              clear HB
                                                              clear HO125
                                                              have HO_6 := n0_
                                                              have HO_9 := n1_
                                                              have HL126_0 := n2_
                                                              have HB := n3_
                                                              have HO129 := n4_
                                                              clear n0_ n1_ n2_ n3_ n4_
                                                              clear ho hb hg hat
                                                              refine hK.out _ _ ?_
                                                              clear hK K
                                                              refine norm_ (a' := ?_) ?_ ?_
                                                              rotate_left
                                                              · show Act.put _ (some 86) _ = _
                                                                simp only [Act.put, List.setIfInBounds_toArray, List.set_cons_zero, List.set_cons_succ, i64_w, i32_w]
                                                                rfl
                                                              refine pure_ (i := 11) (N := some 11) (v := ?_) (a' := ?_) #[true, true, true, true, true, true, true, true, true, true, true, true] rfl rfl (any_of HT_.out (by kernel_rfl)) (fun _ _ _ h => h) (Or.inl ⟨by rfl, ?_⟩) ?_ ?_
                                                              rotate_left
                                                              · intro w'
                                                                go_simp
                                                                with_reducible rfl
                                                              rotate_left
                                                              · simp only [Act.put, List.setIfInBounds_toArray, List.set_cons_zero, List.set_cons_succ, i64_w, i32_w]
                                                                rfl
                                                              refine done_ (done_of HT_.out (by kernel_rfl)) ?_
                                                              have p130 : 0 ≤ (x10_3 : Int) := of_decide_eq_true (by first | (with_reducible assumption) | assumption)
                                                              have q130 : x10_3 < (x9_24.length : Int) := of_decide_eq_true (by first | (with_reducible assumption) | assumption)
                                                              obtain ⟨ad130, A130_0, c130_0, e130, hx130_0, hl130_0, hi130_0⟩ := at_L1 (Kd.N_reads' HO_9.out).2.2 x10_3 p130 q130
                                                              obtain rfl : (⟨go22, 0, none⟩ : Addr) = ad130 := (by injection e130)
                                                              obtain ⟨ce130, hce130, hMe130, hcc130⟩ := Kd.N_get HO_9.out [] x10_3 p130 (by first | exact q130 | exact of_decide_eq_true (by first | (with_reducible assumption) | assumption) | (have e_ := (Kd.N_reads' HO_9.out).1; omega))
                                                              obtain ⟨ua130_0, uc130_0, rfl, ul130_0, ge130_0⟩ := Kd.FK_slice_open hMe130
                                                              have hv130_0 := hcc130 0 _ rfl
                                                              rw [Nat.add_zero, show ((Kd.slice 5 (Kd.int .u8))).sz = 1 from rfl, Nat.mul_one] at hv130_0
                                                              replace hv130_0 := Option.some.inj (hv130_0.symm.trans hx130_0)
                                                              injection hv130_0 with hva_ hvn_ hvc_
                                                              rw [hva_] at ge130_0
                                                              rw [hvc_] at ul130_0
                                                              have HL130_0 := Aside0.mk (show Kd.V (Kd.int .u8) 5 _ w.heap.size _ _ (rd_L1 x9_24 x10_3) from Kd.V_mk ul130_0 ge130_0)
                                                              clear hva_ hvn_ hvc_ ge130_0 ul130_0
                                                              clear hcc130 hce130
                                                              (first | simp only [add_plain] at hx130_0 | simp only [add_at] at hx130_0 | simp only [Addr.add, Nat.zero_add] at hx130_0 | skip)
                                                              have HR130_0 := Aside0.mk hi130_0
                                                              have HC130_0 := Aside0.mk hl130_0
                                                              clear hi130_0 hl130_0
                                                              replace p130 := eq_true p130
                                                              replace q130 := eq_true q130
                                                              obtain ⟨Ao60, co60, eo60⟩ := Kd.R_slice HO129.out
                                                              subst eo60
                                                              try go_wp2_with (first | (go_at_call 76; (with_reducible refine (edit_Shared_1.calls _ _ y127 _ _ (rd_L1 x9_24 x10_3) false _ ?side1 ?side2 ?side3 ?side4 A44.out).mono ?_); (case side1 => repeat (first | exact (Kd.R_reads' HO129.out).2.2 | (with_reducible refine Kd.C_alloc ?_ _) | (with_reducible refine Kd.C_drewN ?_ _) | (with_reducible refine Kd.C_drew ?_))); (case side2 => exact (Kd.R_reads' HO129.out).2.1); (case side3 => repeat (first | exact (by repeat (first | (with_reducible exact HR130_0.out) | (with_reducible refine Kd.C_alloc ?_ _) | (with_reducible refine Kd.C_drewN ?_ _) | (with_reducible refine Kd.C_drew ?_) | exact HR130_0.out)) | (with_reducible refine Kd.C_alloc ?_ _) | (with_reducible refine Kd.C_drewN ?_ _) | (with_reducible refine Kd.C_drew ?_))); (case side4 => exact HC130_0.out); rintro e w' ⟨rfl, ⟨nd, rfl⟩⟩))
                                                              (try simp only [← hl9_24])
                                                              first | go_roundg kj24 | ((simp only [← hji6, ← hji17]); go_roundg kj24)
                                                              case measure => have := HJ2.out; have := HK2.out; have := HK3.out; have := HJ24.out; omega
                                                              case rel => exact ⟨(x9_24), (wrap64 (x10_3 - 1)), (by first | rfl | (simp; done) | (simp [*]; done)), (by first | exact H' | ((simp only [hji6, hji17]); exact H') | (have h_ := H'.out; simp only [← hji6, ← hji17] at h_ ⊢; exact ⟨h_⟩)), ⟨by have := HJ2.out; have := HK2.out; have := HK3.out; have := HJ24.out; omega⟩, ⟨by (try simp only [hl9_24]); (with_reducible repeat (first | apply Kd.N_alloc | apply Kd.N_drewN | apply Kd.N_drew)); exact Kd.N_mono HO_6.out (fun _ hk => hk.1)⟩, ⟨by (try simp only [hl9_24]); (with_reducible repeat (first | apply Kd.N_alloc | apply Kd.N_drewN | apply Kd.N_drew)); exact Kd.N_mono HO_9.out (fun _ hk => hk.1)⟩, ⟨by repeat (first | (with_reducible first | exact HB.out | apply below_alloc | apply pw_below_drewN | apply below_drew1) | exact HB.out)⟩⟩
                                                          · rw [if_neg c43] at H
                                                            exact absurd H (by simp)
                                                        · rw [if_neg c42] at H
                                                          exact absurd H (by simp)
                                                      · rw [if_neg c41] at H
                                                        exact absurd H (by simp)
                                                    · rw [if_neg c40] at H
                                                      exact absurd H (by simp)
                                                  · rw [if_neg c39] at H
                                                    have c39b0 : ((rd l0 x8_2) == (rd l1 x10_3)) = false := beq_eq_false_iff_ne.mpr c39
                                                    have c39b1 : ((rd l0 x8_2) != (rd l1 x10_3)) = true := bne_iff_ne.mpr c39
                                                    have H' := Aside0.mk H
                                                    clear H
                                                    try go_wp2
                                                    have n0_ := Aside0.mk (Kd.N_drew HO_6.out)
                                                    have n1_ := Aside0.mk (Kd.N_drew HO_9.out)
                                                    have n2_ := Aside0.mk (below_drew1 HB.out)
                                                    clear HO_6
                                                    clear HO_9
                                                    clear HB
                                                    have HO_6 := n0_
                                                    have HO_9 := n1_
                                                    have HB := n2_
                                                    clear n0_ n1_ n2_
                                                    have p120 : 0 ≤ (x8_2 : Int) := of_decide_eq_true (by first | (with_reducible assumption) | assumption)
                                                    have q120 : x8_2 < (l0.length : Int) := of_decide_eq_true (by first | (with_reducible assumption) | assumption)
                                                    obtain ⟨ad120, e120, hx120_0⟩ := Kd.at_int HR0.out x8_2 p120 q120
                                                    have hw120_0 := hx120_0
                                                    cases e120
                                                    replace hx120_0 := (HB.out.cell (World.block_lt_of_cell? w _ hx120_0)).trans hx120_0
                                                    replace p120 := eq_true p120
                                                    replace q120 := eq_true q120
                                                    have p121 : 0 ≤ (x10_3 : Int) := of_decide_eq_true (by first | (with_reducible assumption) | assumption)
                                                    have q121 : x10_3 < (l1.length : Int) := of_decide_eq_true (by first | (with_reducible assumption) | assumption)
                                                    obtain ⟨ad121, e121, hx121_0⟩ := Kd.at_int HR1.out x10_3 p121 q121
                                                    have hw121_0 := hx121_0
                                                    cases e121
                                                    replace hx121_0 := (HB.out.cell (World.block_lt_of_cell? w _ hx121_0)).trans hx121_0
                                                    replace p121 := eq_true p121
                                                    replace q121 := eq_true q121
                                                    refine start_ (n := 9) (S := fun w' => w'.cell? (ad120.add (x8_2).toNat) = some (.int .u8 (rd l0 x8_2)) ∧ w'.cell? (ad121.add (x10_3).toNat) = some (.int .u8 (rd l1 x10_3))) (ds := []) #[false, false, false, false, false, false, false, false, false] (by kernel_rfl) rfl rfl ⟨((HB.out.cell (World.block_lt_of_cell? w _ hw120_0)).trans hw120_0), ((HB.out.cell (World.block_lt_of_cell? w _ hw121_0)).trans hw121_0)⟩ (fun hHeld => ?_); refine with_tabW edit_Shared.tab15 edit_Shared.bits15 (fun HT_ HW_ => ?_)
                                                    generalize wc.drew = w61 at HO_6 HO_9 HB hx120_0 hx121_0 hHeld ⊢
                                                    refine pure_ (i := 0) (N := some 67) (v := ?_) (a' := ?_) #[true, false, false, false, false, false, false, false, false] rfl rfl (any_of HT_.out (by kernel_rfl)) (fun _ _ _ h => h) (Or.inl ⟨by rfl, ?_⟩) ?_ ?_
                                                    rotate_left
                                                    · intro w'
                                                      go_simp
                                                      with_reducible rfl
                                                    rotate_left
                                                    · simp only [Act.put, List.setIfInBounds_toArray, List.set_cons_zero, List.set_cons_succ, i64_w, i32_w]
                                                      rfl
                                                    refine pure_ (i := 1) (N := some 68) (v := ?_) (a' := ?_) #[true, true, false, false, false, false, false, false, false] rfl rfl (any_of HT_.out (by kernel_rfl)) (fun _ _ _ h => h) (Or.inl ⟨by rfl, ?_⟩) ?_ ?_
                                                    rotate_left
                                                    · intro w'
                                                      go_simp
                                                      with_reducible rfl
                                                    rotate_left
                                                    · simp only [Act.put, List.setIfInBounds_toArray, List.set_cons_zero, List.set_cons_succ, i64_w, i32_w]
                                                      rfl
                                                    refine pure_ (i := 2) (N := some 69) (v := ?_) (a' := ?_) #[true, true, true, false, false, false, false, false, false] rfl rfl (any_of HT_.out (by kernel_rfl)) (fun _ _ _ h => h) (Or.inl ⟨by rfl, ?_⟩) ?_ ?_
                                                    rotate_left
                                                    · intro w'
                                                      go_simp
                                                      with_reducible rfl
                                                    rotate_left
                                                    · simp only [Act.put, List.setIfInBounds_toArray, List.set_cons_zero, List.set_cons_succ, i64_w, i32_w]
                                                      rfl
                                                    refine pure_ (i := 4) (N := some 71) (v := ?_) (a' := ?_) #[true, true, true, false, true, false, false, false, false] rfl rfl (any_of HT_.out (by kernel_rfl)) (fun _ _ _ h => h) (Or.inl ⟨by rfl, ?_⟩) ?_ ?_
                                                    rotate_left
                                                    · intro w'
                                                      go_simp
                                                      with_reducible rfl
                                                    rotate_left
                                                    · simp only [Act.put, List.setIfInBounds_toArray, List.set_cons_zero, List.set_cons_succ, i64_w, i32_w]
                                                      rfl
                                                    refine pure_ (i := 5) (N := some 72) (v := ?_) (a' := ?_) #[true, true, true, false, true, true, false, false, false] rfl rfl (any_of HT_.out (by kernel_rfl)) (fun _ _ _ h => h) (Or.inl ⟨by rfl, ?_⟩) ?_ ?_
                                                    rotate_left
                                                    · intro w'
                                                      go_simp
                                                      with_reducible rfl
                                                    rotate_left
                                                    · simp only [Act.put, List.setIfInBounds_toArray, List.set_cons_zero, List.set_cons_succ, i64_w, i32_w]
                                                      rfl
                                                    refine pure_ (i := 6) (N := some 73) (v := ?_) (a' := ?_) #[true, true, true, false, true, true, true, false, false] rfl rfl (any_of HT_.out (by kernel_rfl)) (fun _ _ _ h => h) (Or.inl ⟨by rfl, ?_⟩) ?_ ?_
                                                    rotate_left
                                                    · intro w'
                                                      go_simp
                                                      with_reducible rfl
                                                    rotate_left
                                                    · simp only [Act.put, List.setIfInBounds_toArray, List.set_cons_zero, List.set_cons_succ, i64_w, i32_w]
                                                      rfl
                                                    refine take_ (i := 3) (N := some 70) (v := ?_) (a' := ?_) #[true, true, true, true, true, true, true, false, false] rfl rfl (take_ofW HT_.out HW_.out (by kernel_rfl)) (fun _ _ _ h => h) (Or.inl ⟨by rfl, ?_⟩) hHeld ?_ ?_
                                                    rotate_left
                                                    · rintro w' ⟨s0, s1⟩
                                                      go_simp
                                                      with_reducible rfl
                                                    rotate_left
                                                    · simp only [Act.put, List.setIfInBounds_toArray, List.set_cons_zero, List.set_cons_succ, i64_w, i32_w]
                                                      rfl
                                                    refine take_ (i := 7) (N := some 74) (v := ?_) (a' := ?_) #[true, true, true, true, true, true, true, true, false] rfl rfl (take_ofW HT_.out HW_.out (by kernel_rfl)) (fun _ _ _ h => h) (Or.inl ⟨by rfl, ?_⟩) hHeld ?_ ?_
                                                    rotate_left
                                                    · rintro w' ⟨s0, s1⟩
                                                      go_simp
                                                      with_reducible rfl
                                                    rotate_left
                                                    · simp only [Act.put, List.setIfInBounds_toArray, List.set_cons_zero, List.set_cons_succ, i64_w, i32_w]
                                                      rfl
                                                    refine pure_ (i := 8) (N := some 75) (v := ?_) (a' := ?_) #[true, true, true, true, true, true, true, true, true] rfl rfl (any_of HT_.out (by kernel_rfl)) (fun _ _ _ h => h) (Or.inl ⟨by rfl, ?_⟩) ?_ ?_
                                                    rotate_left
                                                    · intro w'
                                                      go_simp
                                                      with_reducible rfl
                                                    rotate_left
                                                    · simp only [Act.put, List.setIfInBounds_toArray, List.set_cons_zero, List.set_cons_succ, i64_w, i32_w]
                                                      rfl
                                                    refine done_ (done_of HT_.out (by kernel_rfl)) ?_
                                                    try go_wp2
                                                    (try simp only [← hl9_24])
                                                    first | go_roundg kj24 | ((simp only [← hji6, ← hji17]); go_roundg kj24)
                                                    case measure => have := HJ2.out; have := HK2.out; have := HK3.out; have := HJ24.out; omega
                                                    case rel => exact ⟨(x9_24), (wrap64 (x10_3 - 1)), (by first | rfl | (simp; done) | (simp [*]; done)), (by first | exact H' | ((simp only [hji6, hji17]); exact H') | (have h_ := H'.out; simp only [← hji6, ← hji17] at h_ ⊢; exact ⟨h_⟩)), ⟨by have := HJ2.out; have := HK2.out; have := HK3.out; have := HJ24.out; omega⟩, ⟨by (try simp only [hl9_24]); (with_reducible repeat (first | apply Kd.N_alloc | apply Kd.N_drewN | apply Kd.N_drew)); exact HO_6.out⟩, ⟨by (try simp only [hl9_24]); (with_reducible repeat (first | apply Kd.N_alloc | apply Kd.N_drewN | apply Kd.N_drew)); exact HO_9.out⟩, ⟨by repeat (first | (with_reducible first | exact HB.out | apply below_alloc | apply pw_below_drewN | apply below_drew1) | exact HB.out)⟩⟩
                                                · rw [if_neg c38] at H
                                                  exact absurd H (by simp)
                                              · rw [if_neg c37] at H
                                                exact absurd H (by simp)
                                            · rw [if_neg c36] at H
                                              exact absurd H (by simp)
                                          · rw [if_neg c35] at H
                                            exact absurd H (by simp)
                                    · rw [if_neg c23] at H
                                      exact absurd H (by simp)
                                  · rw [if_neg c21] at H
                                    exact absurd H (by simp)
                                · rw [if_neg c20] at H
                                  exact absurd H (by simp)
                              · rw [if_neg c19] at H
                                exact absurd H (by simp)
                            · rw [if_neg c18] at H
                              exact absurd H (by simp)
                          · rw [if_neg c16] at H
                            have c16b0 : decide (0 ≤ x10_3) = false := decide_eq_false c16
                            clear c16
                            have H' := Aside0.mk H
                            clear H
                            go_wp2
                            first | go_roundg k3 | ((simp only [← hji6]); go_roundg k3)
                            case measure => have := HJ2.out; have := HK2.out; have := HK3.out; omega
                            case rel => exact ⟨(x9_3), (wrap64 (x8_2 - 1)), (by first | rfl | (simp; done) | (simp [*]; done)), (by first | exact H' | ((simp only [hji6]); exact H') | (have h_ := H'.out; simp only [← hji6] at h_ ⊢; exact ⟨h_⟩)), ⟨by have := HJ2.out; have := HK2.out; have := HK3.out; omega⟩, ⟨by (with_reducible repeat (first | apply Kd.N_alloc | apply Kd.N_drewN | apply Kd.N_drew)); exact Kd.N_mono HO_9.out (fun _ hk => trivial)⟩, ⟨by repeat (first | (with_reducible first | exact HB.out | apply below_alloc | apply pw_below_drewN | apply below_drew1) | exact HB.out)⟩⟩
                    · rw [if_neg c13] at H
                      exact absurd H (by simp)
                  · rw [if_neg c12] at H
                    exact absurd H (by simp)
                · rw [if_neg c11] at H
                  have c11b0 : decide (0 ≤ x8_2) = false := decide_eq_false c11
                  clear c11
                  by_cases c62 : 0 < (x6_2.length : Int)
                  · rw [if_pos c62] at H
                    have c62b0 : decide (0 < (x6_2.length : Int)) = true := decide_eq_true c62
                    have c62b1 : decide (0 < x6_2.length) = true := decide_eq_true (by omega)
                    clear c62
                    replace H := Option.bind_eq_some_iff.mp H
                    obtain ⟨t107, A630, H⟩ := H
                    replace H : (some (t107, 0)) = some (r1, r2) := H
                    have A63 := Aside0.mk A630
                    clear A630
                    simp only [Option.some.injEq, Prod.mk.injEq] at H
                    obtain ⟨rfl, rfl⟩ := H
                    obtain ⟨Ao64, co64, eo64⟩ := Kd.N_slice HO_6.out
                    subst eo64
                    have p106 : 0 ≤ (0 : Int) := (by omega)
                    have q106 : 0 < (x6_2.length : Int) := of_decide_eq_true (by first | (with_reducible assumption) | assumption)
                    obtain ⟨ad106, A106_0, c106_0, e106, hx106_0, hl106_0, hi106_0⟩ := at_L1 (Kd.N_reads' HO_6.out).2.2 0 p106 q106
                    cases e106
                    obtain ⟨ce106, hce106, hMe106, hcc106⟩ := Kd.N_get HO_6.out [] 0 p106 (by first | exact q106 | exact of_decide_eq_true (by first | (with_reducible assumption) | assumption) | (have e_ := (Kd.N_reads' HO_6.out).1; omega))
                    obtain ⟨ua106_0, uc106_0, rfl, ul106_0, ge106_0⟩ := Kd.FK_slice_open hMe106
                    have hv106_0 := hcc106 0 _ rfl
                    rw [Nat.add_zero, show ((Kd.slice 5 (Kd.int .u8))).sz = 1 from rfl, Nat.mul_one] at hv106_0
                    replace hv106_0 := Option.some.inj (hv106_0.symm.trans hx106_0)
                    injection hv106_0 with hva_ hvn_ hvc_
                    rw [hva_] at ge106_0
                    rw [hvc_] at ul106_0
                    have HL106_0 := Aside0.mk (show Kd.V (Kd.int .u8) 5 _ w.heap.size _ _ (rd_L1 x6_2 0) from Kd.V_mk ul106_0 ge106_0)
                    clear hva_ hvn_ hvc_ ge106_0 ul106_0
                    clear hcc106 hce106
                    have qi106 : (0 < x6_2.length) = True := eq_true (by omega)
                    (try rw [show ((0 : Int)).toNat = 0 from rfl] at hx106_0)
                    (try rw [Addr.add_zero'] at hx106_0)
                    have HR106_0 := Aside0.mk hi106_0
                    have HC106_0 := Aside0.mk hl106_0
                    clear hi106_0 hl106_0
                    replace p106 := eq_true p106
                    replace q106 := eq_true q106
                    go_wp2_with (first | ((with_reducible refine gate_callee (f := 75) rfl ?_); refine goesL_ (some 102) rfl rfl Try.func75 (by kernel_rfl) rfl #[.slice A106_0 (rd_L1 x6_2 0).length c106_0] rfl (by (try simp only [List.map_toArray, List.map_cons, List.map_nil]); first | done | rfl | (simp only [List.length_drop, List.length_take]; rfl)) ?_; (with_reducible refine (bytes_Clone.calls _ _ (rd_L1 x6_2 0) t107 _ ?side1 ?side2 A63.out).mono ?_); (case side1 => repeat (first | exact (by repeat (first | (with_reducible exact HR106_0.out) | (with_reducible refine Kd.C_alloc ?_ _) | (with_reducible refine Kd.C_drewN ?_ _) | (with_reducible refine Kd.C_drew ?_) | exact HR106_0.out)) | (with_reducible refine Kd.C_alloc ?_ _) | (with_reducible refine Kd.C_drewN ?_ _) | (with_reducible refine Kd.C_drew ?_))); (case side2 => exact HC106_0.out); rintro e w65 ⟨v108, rfl, ho0, hb⟩; refine ⟨_, rfl, ?_⟩; have n0_ := Aside0.mk (Kd.N_elder' (by (with_reducible repeat (first | apply Kd.N_alloc | apply Kd.N_drewN | apply Kd.N_drew)); exact HO_6.out) (Kd.R_base ho0) hb); have n1_ := Aside0.mk (Kd.V_elder' (by (with_reducible repeat (first | apply Kd.V_alloc | apply Kd.V_drewN | apply Kd.V_drew)); exact HL106_0.out) (Kd.R_base ho0) hb); have n2_ := Aside0.mk (Kd.R_lower ho0 (below_size (by repeat (first | (with_reducible first | exact HB.out | apply below_alloc | apply pw_below_drewN | apply below_drew1) | exact HB.out)))); have n3_ := Aside0.mk (Kd.C_below (by repeat (first | (with_reducible exact HR106_0.out) | (with_reducible refine Kd.C_alloc ?_ _) | (with_reducible refine Kd.C_drewN ?_ _) | (with_reducible refine Kd.C_drew ?_) | exact HR106_0.out)) hb); have n4_ := Aside0.mk (below_step (by repeat (first | (with_reducible first | exact HB.out | apply below_alloc | apply pw_below_drewN | apply below_drew1) | exact HB.out)) hb); clear HO_6; clear HL106_0; clear HR106_0; clear HB; have HO_6 := n0_; have HL106_0 := n1_; have HO109 := n2_; have HR106_0 := n3_; have HB := n4_; clear n0_ n1_ n2_ n3_ n4_; (try clear hb); (try clear hb2); (try clear hk); (try clear hi); (try clear ho0)))
                    go_ret2
                    exact ⟨_, by first | rfl | (simp [errW_none, errW_some] <;> rfl) | (simp only [← hji6]; first | rfl | (simp [errW_none, errW_some] <;> rfl)) | (simp [*, errW_none, errW_some] <;> rfl), by (with_reducible repeat (first | apply Kd.R_alloc | apply Kd.R_drewN | apply Kd.R_drew)); exact HO109.out, by repeat (first | (with_reducible first | exact HB.out | apply below_alloc | apply pw_below_drewN | apply below_drew1) | exact HB.out)⟩
                  · rw [if_neg c62] at H
                    exact absurd H (by simp)
          · rw [if_neg c8] at H
            exact absurd H (by simp)
        · rw [if_neg c7] at H
          exact absurd H (by simp)

end Go.Proofs.Ytkjhddjenkocjaa.GE
