-- Written by ext.py, a program of this session.
import Derived.Test.YtkalcljgcigdgaaGE0
namespace Go.Proofs.Ytkalcljgcigdgaa.GE
open Go.RowKit Go.Proofs.YtkalcljgcigdgaaW.PrintWords Go.Proofs.YtkalcljgcigdgaaW.PrintLast Go.Proofs.YtkalcljgcigdgaaW.PrintMore
attribute [local go_sem] max2_int min2_int max_two min_two max_three min_three max_four min_four cellIs_set   -- for this text's walks alone
set_option linter.unusedVariables false
set_option linter.unusedSimpArgs false

/-! ### ends_common: function 46 -/
mutual
def ends_common.l0 : Nat → List Int → List Int → List Int → List Int → List Int → Int → Int → Option (List Int)
  | 0, _, _, _, _, _, _, _ => none
  | k + 1, x0, x1, x5, x6, x20, x21, x22 => if x22 < x21 then (if 0 ≤ x22 then (if x22 < (x20.length : Int) then (if 0 ≤ (rd x20 x22) then (if (rd x20 x22) < (x6.length : Int) then (ends_common.l0 k x0 x1 x5 (x6.set ((rd x20 x22) : Int).toNat x22) x20 x21 (wrap64 (x22 + 1))) else (none)) else (none)) else (none)) else (none)) else (ends_common.l1 k x0 x1 x5 x6 0 (x0.length : Int) 0)
def ends_common.l1 : Nat → List Int → List Int → List Int → List Int → Int → Int → Int → Option (List Int)
  | 0, _, _, _, _, _, _, _ => none
  | k + 1, x0, x1, x5, x6, x9, x33, x34 => if x34 < x33 then (if 0 ≤ x34 then (if x34 < (x6.length : Int) then (if (rd x6 x34) = 0 then (ends_common.l1 k x0 x1 x5 x6 0 x33 (wrap64 (x34 + 1))) else (if 0 ≤ (wrap64 ((rd x6 x34) - 1)) then (if (wrap64 ((rd x6 x34) - 1)) < (x1.length : Int) then (ends_common.l2 k x0 x1 x5 x6 x9 x34 (rd x1 (wrap64 ((rd x6 x34) - 1))) x33 x34) else (none)) else (none))) else (none)) else (none)) else (some x5)
def ends_common.l2 : Nat → List Int → List Int → List Int → List Int → Int → Int → Int → Int → Int → Option (List Int)
  | 0, _, _, _, _, _, _, _, _, _ => none
  | k + 1, x0, x1, x5, x6, x9, x10, x11, x33, x34 => if (wrap64 (x10 + x9)) < (x0.length : Int) then (if (wrap64 (x11 + x9)) < (x0.length : Int) then (if 0 ≤ (wrap64 (x10 + x9)) then (if 0 ≤ (wrap64 (x11 + x9)) then (if (rd x0 (wrap64 (x10 + x9))) = (rd x0 (wrap64 (x11 + x9))) then (ends_common.l2 k x0 x1 x5 x6 (wrap64 (x9 + 1)) x10 x11 x33 x34) else (if 0 ≤ x10 then (if x10 < (x6.length : Int) then (if 0 ≤ (wrap64 ((rd x6 x10) - 1)) then (if (wrap64 ((rd x6 x10) - 1)) < (x5.length : Int) then (ends_common.l1 k x0 x1 (x5.set ((wrap64 ((rd x6 x10) - 1)) : Int).toNat x9) x6 (mx (wrap64 (x9 - 1)) 0) x33 (wrap64 (x34 + 1))) else (none)) else (none)) else (none)) else (none))) else (none)) else (none)) else (if 0 ≤ x10 then (if x10 < (x6.length : Int) then (if 0 ≤ (wrap64 ((rd x6 x10) - 1)) then (if (wrap64 ((rd x6 x10) - 1)) < (x5.length : Int) then (ends_common.l1 k x0 x1 (x5.set ((wrap64 ((rd x6 x10) - 1)) : Int).toNat x9) x6 (mx (wrap64 (x9 - 1)) 0) x33 (wrap64 (x34 + 1))) else (none)) else (none)) else (none)) else (none))) else (if 0 ≤ x10 then (if x10 < (x6.length : Int) then (if 0 ≤ (wrap64 ((rd x6 x10) - 1)) then (if (wrap64 ((rd x6 x10) - 1)) < (x5.length : Int) then (ends_common.l1 k x0 x1 (x5.set ((wrap64 ((rd x6 x10) - 1)) : Int).toNat x9) x6 (mx (wrap64 (x9 - 1)) 0) x33 (wrap64 (x34 + 1))) else (none)) else (none)) else (none)) else (none))
end
def ends_common.f (k : Nat) (l0 : List Int) (l1 : List Int) : Option (List Int) := if 0 ≤ (mx (wrap64 ((l1.length : Int) - 1)) 0) then (if (mx (wrap64 ((l1.length : Int) - 1)) 0 : Int).toNat ≤ 35184372088832 then (if 0 ≤ (l0.length : Int) then (if ((l0.length : Int) : Int).toNat ≤ 35184372088832 then (ends_common.l0 k l0 l1 (List.replicate (mx (wrap64 ((l1.length : Int) - 1)) 0 : Int).toNat 0) (List.replicate ((l0.length : Int) : Int).toNat 0) l1 (l1.length : Int) 0) else (none)) else (none)) else (none)) else (none)
theorem ends_common.mono_l : ∀ k, (∀ y0 y1 y2 y3 y4 y5 y6, LeO (ends_common.l0 k y0 y1 y2 y3 y4 y5 y6) (ends_common.l0 (k + 1) y0 y1 y2 y3 y4 y5 y6)) ∧ (∀ y0 y1 y2 y3 y4 y5 y6, LeO (ends_common.l1 k y0 y1 y2 y3 y4 y5 y6) (ends_common.l1 (k + 1) y0 y1 y2 y3 y4 y5 y6)) ∧ (∀ y0 y1 y2 y3 y4 y5 y6 y7 y8, LeO (ends_common.l2 k y0 y1 y2 y3 y4 y5 y6 y7 y8) (ends_common.l2 (k + 1) y0 y1 y2 y3 y4 y5 y6 y7 y8))
  | 0 => ⟨fun _ _ _ _ _ _ _ r h => by simp [ends_common.l0] at h, fun _ _ _ _ _ _ _ r h => by simp [ends_common.l1] at h, fun _ _ _ _ _ _ _ _ _ r h => by simp [ends_common.l2] at h⟩
  | k + 1 => by
    obtain ⟨ih0, ih1, ih2⟩ := ends_common.mono_l k
    refine ⟨?_, ?_, ?_⟩
    · intro y0 y1 y2 y3 y4 y5 y6
      unfold ends_common.l0
      repeat' first
      | (with_reducible exact ih0 _ _ _ _ _ _ _)
      | (with_reducible exact ih1 _ _ _ _ _ _ _)
      | (with_reducible exact ih2 _ _ _ _ _ _ _ _ _)
      | (with_reducible exact LeO.refl _)
      | (with_reducible exact LeO.none _)
      | (with_reducible refine LeO.ite ?_ ?_)
      | (with_reducible refine LeO.bind ?_ (fun _ => ?_))
      | exact ih0 _ _ _ _ _ _ _
      | exact ih1 _ _ _ _ _ _ _
      | exact ih2 _ _ _ _ _ _ _ _ _
      | exact LeO.none _
      | refine LeO.ite ?_ ?_
      | refine LeO.bind ?_ (fun _ => ?_)
    · intro y0 y1 y2 y3 y4 y5 y6
      unfold ends_common.l1
      repeat' first
      | (with_reducible exact ih0 _ _ _ _ _ _ _)
      | (with_reducible exact ih1 _ _ _ _ _ _ _)
      | (with_reducible exact ih2 _ _ _ _ _ _ _ _ _)
      | (with_reducible exact LeO.refl _)
      | (with_reducible exact LeO.none _)
      | (with_reducible refine LeO.ite ?_ ?_)
      | (with_reducible refine LeO.bind ?_ (fun _ => ?_))
      | exact ih0 _ _ _ _ _ _ _
      | exact ih1 _ _ _ _ _ _ _
      | exact ih2 _ _ _ _ _ _ _ _ _
      | exact LeO.none _
      | refine LeO.ite ?_ ?_
      | refine LeO.bind ?_ (fun _ => ?_)
    · intro y0 y1 y2 y3 y4 y5 y6 y7 y8
      unfold ends_common.l2
      repeat' first
      | (with_reducible exact ih0 _ _ _ _ _ _ _)
      | (with_reducible exact ih1 _ _ _ _ _ _ _)
      | (with_reducible exact ih2 _ _ _ _ _ _ _ _ _)
      | (with_reducible exact LeO.refl _)
      | (with_reducible exact LeO.none _)
      | (with_reducible refine LeO.ite ?_ ?_)
      | (with_reducible refine LeO.bind ?_ (fun _ => ?_))
      | exact ih0 _ _ _ _ _ _ _
      | exact ih1 _ _ _ _ _ _ _
      | exact ih2 _ _ _ _ _ _ _ _ _
      | exact LeO.none _
      | refine LeO.ite ?_ ?_
      | refine LeO.bind ?_ (fun _ => ?_)
theorem ends_common.mono : ∀ a0 a1 k, LeO (ends_common.f k a0 a1) (ends_common.f (k + 1) a0 a1) := by
  intro a0 a1 k
  obtain ⟨ih0, ih1, ih2⟩ := ends_common.mono_l k
  unfold ends_common.f
  repeat' first
      | (with_reducible exact ih0 _ _ _ _ _ _ _)
      | (with_reducible exact ih1 _ _ _ _ _ _ _)
      | (with_reducible exact ih2 _ _ _ _ _ _ _ _ _)
      | (with_reducible exact LeO.refl _)
      | (with_reducible exact LeO.none _)
      | (with_reducible refine LeO.ite ?_ ?_)
      | (with_reducible refine LeO.bind ?_ (fun _ => ?_))
      | exact ih0 _ _ _ _ _ _ _
      | exact ih1 _ _ _ _ _ _ _
      | exact ih2 _ _ _ _ _ _ _ _ _
      | exact LeO.none _
      | refine LeO.ite ?_ ?_
      | refine LeO.bind ?_ (fun _ => ?_)
set_option maxHeartbeats 8000000 in
set_option maxRecDepth 100000 in
theorem ends_common.calls (k : Nat) (A0 : Option Addr) (c0 : Nat) (l0 : List Int) (A1 : Option Addr) (c1 : Nat) (l1 : List Int) (r : List Int) (w : World) (hr0 : Kd.C (Kd.int .u8) w A0 l0.length l0) (hc0 : l0.length ≤ c0) (hr1 : Kd.C (Kd.int .i64) w A1 l1.length l1) (hc1 : l1.length ≤ c1) (h : ends_common.f k l0 l1 = some r) :
    Calls Try.prog 46 #[.slice A0 l0.length c0, .slice A1 l1.length c1] w fun e w' => ∃ v0_ : Value, e = .returned (v0_) ∧ Kd.R (Kd.int .i64) 3 w' w.heap.size (fun _ => True) v0_ r ∧ Below w.heap.size w w' := by
  have HR0 := Aside0.mk hr0
  have HC0 := Aside0.mk hc0
  clear hr0 hc0
  have HR1 := Aside0.mk hr1
  have HC1 := Aside0.mk hc1
  clear hr1 hc1
  have HB := Aside0.mk (Below.refl w.heap.size w)
  have H : (if 0 ≤ (mx (wrap64 ((l1.length : Int) - 1)) 0) then (if (mx (wrap64 ((l1.length : Int) - 1)) 0 : Int).toNat ≤ 35184372088832 then (if 0 ≤ (l0.length : Int) then (if ((l0.length : Int) : Int).toNat ≤ 35184372088832 then (ends_common.l0 k l0 l1 (List.replicate (mx (wrap64 ((l1.length : Int) - 1)) 0 : Int).toNat 0) (List.replicate ((l0.length : Int) : Int).toNat 0) l1 (l1.length : Int) 0) else (none)) else (none)) else (none)) else (none)) = some r := h
  clear h
  obtain ⟨ji3, hji3⟩ : ∃ j_ : Int, (mx (wrap64 ((l1.length : Int) - 1)) 0) = j_ := ⟨_, rfl⟩
  replace H : (if 0 ≤ (ji3) then (if (ji3 : Int).toNat ≤ 35184372088832 then (if 0 ≤ (l0.length : Int) then (if ((l0.length : Int) : Int).toNat ≤ 35184372088832 then (ends_common.l0 k l0 l1 (List.replicate (ji3 : Int).toNat 0) (List.replicate ((l0.length : Int) : Int).toNat 0) l1 (l1.length : Int) 0) else (none)) else (none)) else (none)) else (none)) = some r := by first | (rw [hji3] at H; exact H) | (simp only [hji3] at H ⊢; exact H)
  (try (have hji3l : 0 ≤ ji3 := by (rw [← hji3]; unfold mx; (repeat' split) <;> omega)))
  (try (have hji3m : 0 ≤ ji3 := by omega))
  have hji3_ : (if (wrap64 ((l1.length : Int) - 1)) < 0 then 0 else (wrap64 ((l1.length : Int) - 1))) = ji3 := hji3
  by_cases c4 : 0 ≤ (ji3)
  · rw [if_pos c4] at H
    have c4b0 := eq_true c4
    have c4b1 : decide (0 ≤ (ji3)) = true := decide_eq_true c4
    clear c4
    by_cases c5 : (ji3 : Int).toNat ≤ 35184372088832
    · rw [if_pos c5] at H
      have c5b0 := eq_true c5
      have c5b1 : decide ((ji3 : Int).toNat ≤ 35184372088832) = true := decide_eq_true c5
      clear c5
      obtain ⟨y146, hy146⟩ : ∃ y_ : List Int, y_ = (List.replicate (ji3 : Int).toNat 0) := ⟨_, rfl⟩
      replace H : (if 0 ≤ (l0.length : Int) then (if ((l0.length : Int) : Int).toNat ≤ 35184372088832 then (ends_common.l0 k l0 l1 y146 (List.replicate ((l0.length : Int) : Int).toNat 0) l1 (l1.length : Int) 0) else (none)) else (none)) = some r := by first | (rw [hy146]; with_reducible exact H) | (have H2_ := (Option.bind_some _ _).symm.trans H; rw [hy146]; with_reducible exact H2_) | (have H2_ := (Option.bind_some _ _).symm.trans H; with_reducible exact H2_) | with_reducible exact H | (rw [hy146]; exact H) | exact H
      have Ny146 := Aside0.mk hy146
      clear hy146
      by_cases c6 : 0 ≤ (l0.length : Int)
      · rw [if_pos c6] at H
        have c6b0 := eq_true c6
        have c6b1 : decide (0 ≤ (l0.length : Int)) = true := decide_eq_true c6
        clear c6
        by_cases c7 : ((l0.length : Int) : Int).toNat ≤ 35184372088832
        · rw [if_pos c7] at H
          have c7b0 := eq_true c7
          have c7b1 : decide (((l0.length : Int) : Int).toNat ≤ 35184372088832) = true := decide_eq_true c7
          clear c7
          obtain ⟨y149, hy149⟩ : ∃ y_ : List Int, y_ = (List.replicate ((l0.length : Int) : Int).toNat 0) := ⟨_, rfl⟩
          replace H : (ends_common.l0 k l0 l1 y146 y149 l1 (l1.length : Int) 0) = some r := by first | (rw [hy149]; with_reducible exact H) | (have H2_ := (Option.bind_some _ _).symm.trans H; rw [hy149]; with_reducible exact H2_) | (have H2_ := (Option.bind_some _ _).symm.trans H; with_reducible exact H2_) | with_reducible exact H | (rw [hy149]; exact H) | exact H
          have Ny149 := Aside0.mk hy149
          clear hy149
          have H' := Aside0.mk H
          clear H
          go_enter Try.func46, Try.ntmps46
          go_wp2_with (first | ((with_reducible refine gate_dst (N := 16) rfl ?_); (try (refine gate_guard (by rfl) ?_; dsimp only)); refine Kd.R_make (Kd.int .i64) _ 3 rfl (N := 16) rfl 24 _ _ rfl ji3 rfl rfl Try.underlying24 (.int .i64 0) 8 info3 rfl (by decide) (by omega) 0 (ok := fun _ => True) (okp := fun _ => True) rfl (fun _ hk => hk) trivial (of_decide_eq_true (by first | (with_reducible assumption) | assumption)) (Nat.le_trans (Nat.mul_le_mul_right _ (of_decide_eq_true (by first | (with_reducible assumption) | assumption) : ji3.toNat ≤ 35184372088832)) (by omega)) (Below.refl _ _) (Nat.le_refl _) ?_; intro v147 w8 ho9 hb hg_ hnew_; clear hg_ hnew_; (first | rw [← Ny146.out] at ho9 | (simp only [Int.reduceToNat] at ho9; rw [← Ny146.out] at ho9)); have n0_ := Aside0.mk (Kd.R_lower ho9 (below_size (by repeat (first | (with_reducible first | exact HB.out | apply below_alloc | apply pw_below_drewN | apply below_drew1) | exact HB.out)))); have n1_ := Aside0.mk (below_step (by repeat (first | (with_reducible first | exact HB.out | apply below_alloc | apply pw_below_drewN | apply below_drew1) | exact HB.out)) hb); clear HB; have HO148 := n0_; have HB := n1_; clear n0_ n1_; clear hb ho9) | ((with_reducible refine gate_dst (N := 19) rfl ?_); (try (refine gate_guard (by rfl) ?_; dsimp only)); refine Kd.R_make (Kd.int .i64) _ 3 rfl (N := 19) rfl 24 _ _ rfl (l0.length : Int) rfl rfl Try.underlying24 (.int .i64 0) 8 info3 rfl (by decide) (by omega) 0 (ok := fun _ => True) (okp := fun _ => True) rfl (fun _ hk => hk) trivial (of_decide_eq_true (by first | (with_reducible assumption) | assumption)) (Nat.le_trans (Nat.mul_le_mul_right _ (of_decide_eq_true (by first | (with_reducible assumption) | assumption) : (l0.length : Int).toNat ≤ 35184372088832)) (by omega)) (Below.refl _ _) (Nat.le_refl _) ?_; intro v150 w10 ho11 hb hg_ hnew_; clear hg_ hnew_; (first | rw [← Ny149.out] at ho11 | (simp only [Int.reduceToNat] at ho11; rw [← Ny149.out] at ho11)); have n0_ := Aside0.mk (Kd.R_elder' (by (with_reducible repeat (first | apply Kd.R_alloc | apply Kd.R_drewN | apply Kd.R_drew)); exact HO148.out) (Kd.R_base ho11) hb); have n1_ := Aside0.mk (Kd.R_lower (Kd.R_new' ho11 (Kd.R_lt (by (with_reducible repeat (first | apply Kd.R_alloc | apply Kd.R_drewN | apply Kd.R_drew)); exact HO148.out))) (below_size (by repeat (first | (with_reducible first | exact HB.out | apply below_alloc | apply pw_below_drewN | apply below_drew1) | exact HB.out)))); have n2_ := Aside0.mk (below_step (by repeat (first | (with_reducible first | exact HB.out | apply below_alloc | apply pw_below_drewN | apply below_drew1) | exact HB.out)) hb); clear HO148; clear HB; have HO148 := n0_; have HO151 := n1_; have HB := n2_; clear n0_ n1_ n2_; clear hb ho11))
          repeat (go_quiet (first | ((with_reducible refine gate_dst (N := 16) rfl ?_); (try (refine gate_guard (by rfl) ?_; dsimp only)); refine Kd.R_make (Kd.int .i64) _ 3 rfl (N := 16) rfl 24 _ _ rfl ji3 rfl rfl Try.underlying24 (.int .i64 0) 8 info3 rfl (by decide) (by omega) 0 (ok := fun _ => True) (okp := fun _ => True) rfl (fun _ hk => hk) trivial (of_decide_eq_true (by first | (with_reducible assumption) | assumption)) (Nat.le_trans (Nat.mul_le_mul_right _ (of_decide_eq_true (by first | (with_reducible assumption) | assumption) : ji3.toNat ≤ 35184372088832)) (by omega)) (Below.refl _ _) (Nat.le_refl _) ?_; intro v147 w8 ho9 hb hg_ hnew_; clear hg_ hnew_; (first | rw [← Ny146.out] at ho9 | (simp only [Int.reduceToNat] at ho9; rw [← Ny146.out] at ho9)); have n0_ := Aside0.mk (Kd.R_lower ho9 (below_size (by repeat (first | (with_reducible first | exact HB.out | apply below_alloc | apply pw_below_drewN | apply below_drew1) | exact HB.out)))); have n1_ := Aside0.mk (below_step (by repeat (first | (with_reducible first | exact HB.out | apply below_alloc | apply pw_below_drewN | apply below_drew1) | exact HB.out)) hb); clear HB; have HO148 := n0_; have HB := n1_; clear n0_ n1_; clear hb ho9) | ((with_reducible refine gate_dst (N := 19) rfl ?_); (try (refine gate_guard (by rfl) ?_; dsimp only)); refine Kd.R_make (Kd.int .i64) _ 3 rfl (N := 19) rfl 24 _ _ rfl (l0.length : Int) rfl rfl Try.underlying24 (.int .i64 0) 8 info3 rfl (by decide) (by omega) 0 (ok := fun _ => True) (okp := fun _ => True) rfl (fun _ hk => hk) trivial (of_decide_eq_true (by first | (with_reducible assumption) | assumption)) (Nat.le_trans (Nat.mul_le_mul_right _ (of_decide_eq_true (by first | (with_reducible assumption) | assumption) : (l0.length : Int).toNat ≤ 35184372088832)) (by omega)) (Below.refl _ _) (Nat.le_refl _) ?_; intro v150 w10 ho11 hb hg_ hnew_; clear hg_ hnew_; (first | rw [← Ny149.out] at ho11 | (simp only [Int.reduceToNat] at ho11; rw [← Ny149.out] at ho11)); have n0_ := Aside0.mk (Kd.R_elder' (by (with_reducible repeat (first | apply Kd.R_alloc | apply Kd.R_drewN | apply Kd.R_drew)); exact HO148.out) (Kd.R_base ho11) hb); have n1_ := Aside0.mk (Kd.R_lower (Kd.R_new' ho11 (Kd.R_lt (by (with_reducible repeat (first | apply Kd.R_alloc | apply Kd.R_drewN | apply Kd.R_drew)); exact HO148.out))) (below_size (by repeat (first | (with_reducible first | exact HB.out | apply below_alloc | apply pw_below_drewN | apply below_drew1) | exact HB.out)))); have n2_ := Aside0.mk (below_step (by repeat (first | (with_reducible first | exact HB.out | apply below_alloc | apply pw_below_drewN | apply below_drew1) | exact HB.out)) hb); clear HO148; clear HB; have HO148 := n0_; have HO151 := n1_; have HB := n2_; clear n0_ n1_ n2_; clear hb ho11)); try go_wp2_with (first | ((with_reducible refine gate_dst (N := 16) rfl ?_); (try (refine gate_guard (by rfl) ?_; dsimp only)); refine Kd.R_make (Kd.int .i64) _ 3 rfl (N := 16) rfl 24 _ _ rfl ji3 rfl rfl Try.underlying24 (.int .i64 0) 8 info3 rfl (by decide) (by omega) 0 (ok := fun _ => True) (okp := fun _ => True) rfl (fun _ hk => hk) trivial (of_decide_eq_true (by first | (with_reducible assumption) | assumption)) (Nat.le_trans (Nat.mul_le_mul_right _ (of_decide_eq_true (by first | (with_reducible assumption) | assumption) : ji3.toNat ≤ 35184372088832)) (by omega)) (Below.refl _ _) (Nat.le_refl _) ?_; intro v147 w8 ho9 hb hg_ hnew_; clear hg_ hnew_; (first | rw [← Ny146.out] at ho9 | (simp only [Int.reduceToNat] at ho9; rw [← Ny146.out] at ho9)); have n0_ := Aside0.mk (Kd.R_lower ho9 (below_size (by repeat (first | (with_reducible first | exact HB.out | apply below_alloc | apply pw_below_drewN | apply below_drew1) | exact HB.out)))); have n1_ := Aside0.mk (below_step (by repeat (first | (with_reducible first | exact HB.out | apply below_alloc | apply pw_below_drewN | apply below_drew1) | exact HB.out)) hb); clear HB; have HO148 := n0_; have HB := n1_; clear n0_ n1_; clear hb ho9) | ((with_reducible refine gate_dst (N := 19) rfl ?_); (try (refine gate_guard (by rfl) ?_; dsimp only)); refine Kd.R_make (Kd.int .i64) _ 3 rfl (N := 19) rfl 24 _ _ rfl (l0.length : Int) rfl rfl Try.underlying24 (.int .i64 0) 8 info3 rfl (by decide) (by omega) 0 (ok := fun _ => True) (okp := fun _ => True) rfl (fun _ hk => hk) trivial (of_decide_eq_true (by first | (with_reducible assumption) | assumption)) (Nat.le_trans (Nat.mul_le_mul_right _ (of_decide_eq_true (by first | (with_reducible assumption) | assumption) : (l0.length : Int).toNat ≤ 35184372088832)) (by omega)) (Below.refl _ _) (Nat.le_refl _) ?_; intro v150 w10 ho11 hb hg_ hnew_; clear hg_ hnew_; (first | rw [← Ny149.out] at ho11 | (simp only [Int.reduceToNat] at ho11; rw [← Ny149.out] at ho11)); have n0_ := Aside0.mk (Kd.R_elder' (by (with_reducible repeat (first | apply Kd.R_alloc | apply Kd.R_drewN | apply Kd.R_drew)); exact HO148.out) (Kd.R_base ho11) hb); have n1_ := Aside0.mk (Kd.R_lower (Kd.R_new' ho11 (Kd.R_lt (by (with_reducible repeat (first | apply Kd.R_alloc | apply Kd.R_drewN | apply Kd.R_drew)); exact HO148.out))) (below_size (by repeat (first | (with_reducible first | exact HB.out | apply below_alloc | apply pw_below_drewN | apply below_drew1) | exact HB.out)))); have n2_ := Aside0.mk (below_step (by repeat (first | (with_reducible first | exact HB.out | apply below_alloc | apply pw_below_drewN | apply below_drew1) | exact HB.out)) hb); clear HO148; clear HB; have HO148 := n0_; have HO151 := n1_; have HB := n2_; clear n0_ n1_ n2_; clear hb ho11)))
          go_loopg [22] k (fun kq v22 w' => ∃ (x6_1 : List Int) (x22_1 : Int), v22 = .int .i64 x22_1 ∧ Aside0 (ends_common.l0 kq l0 l1 y146 x6_1 l1 (l1.length : Int) x22_1 = some r) ∧ Aside0 (kq ≤ k) ∧ Aside0 (Kd.R (Kd.int .i64) 3 w' w.heap.size (fun k_ => some k_ ≠ (v150 : Value).ownBlock) v147 y146) ∧ Aside0 (Kd.R (Kd.int .i64) 3 w' w.heap.size (fun k_ => some k_ ≠ (v147 : Value).ownBlock) v150 x6_1) ∧ Aside0 (Below w.heap.size w w'))
          case atStart => exact ⟨(y149), (0), (by first | rfl | (simp; done) | (simp [*]; done)), H', ⟨Nat.le_refl _⟩, ⟨by (with_reducible repeat (first | apply Kd.R_alloc | apply Kd.R_drewN | apply Kd.R_drew)); exact Kd.R_mono HO148.out (fun _ hk => hk.2)⟩, ⟨by (with_reducible repeat (first | apply Kd.R_alloc | apply Kd.R_drewN | apply Kd.R_drew)); exact Kd.R_mono HO151.out (fun _ hk => hk.2)⟩, ⟨by repeat (first | (with_reducible first | exact HB.out | apply below_alloc | apply pw_below_drewN | apply below_drew1) | exact HB.out)⟩⟩
          case round =>
            clear H'
            try clear c1
            try clear p2
            try clear c4
            try clear c4b0
            try clear c4b1
            try clear c5
            try clear c5b0
            try clear c5b1
            try clear c6
            try clear c6b0
            try clear c6b1
            try clear p6
            try clear c7
            try clear c7b0
            try clear c7b1
            obtain ⟨x6_1, x22_1, rfl, HA, HK1, HO_5, HO_6, HB⟩ := hrel
            cases gk with
            | zero => exact absurd HA.out (by simp [ends_common.l0])
            | succ k1 =>
              have H := HA.out
              clear HA
              simp only [ends_common.l0] at H
              by_cases c12 : x22_1 < (l1.length : Int)
              · rw [if_pos c12] at H
                have c12b0 : decide (x22_1 < (l1.length : Int)) = true := decide_eq_true c12
                clear c12
                by_cases c13 : 0 ≤ x22_1
                · rw [if_pos c13] at H
                  have c13b0 : decide (0 ≤ x22_1) = true := decide_eq_true c13
                  clear c13
                  by_cases c14 : x22_1 < (l1.length : Int)
                  · rw [if_pos c14] at H
                    have c14b0 : decide (x22_1 < (l1.length : Int)) = true := decide_eq_true c14
                    clear c14
                    by_cases c15 : 0 ≤ (rd l1 x22_1)
                    · rw [if_pos c15] at H
                      have c15b0 : decide (0 ≤ (rd l1 x22_1)) = true := decide_eq_true c15
                      clear c15
                      by_cases c16 : (rd l1 x22_1) < (x6_1.length : Int)
                      · rw [if_pos c16] at H
                        have c16b0 : decide ((rd l1 x22_1) < (x6_1.length : Int)) = true := decide_eq_true c16
                        clear c16
                        obtain ⟨y153, hy153⟩ : ∃ y_ : List Int, y_ = (x6_1.set ((rd l1 x22_1) : Int).toNat x22_1) := ⟨_, rfl⟩
                        replace H : (ends_common.l0 k1 l0 l1 y146 y153 l1 (l1.length : Int) (wrap64 (x22_1 + 1))) = some r := by first | (rw [hy153]; with_reducible exact H) | (have H2_ := (Option.bind_some _ _).symm.trans H; rw [hy153]; with_reducible exact H2_) | (have H2_ := (Option.bind_some _ _).symm.trans H; with_reducible exact H2_) | with_reducible exact H | (rw [hy153]; exact H) | exact H
                        have Ny153 := Aside0.mk hy153
                        clear hy153
                        have H' := Aside0.mk H
                        clear H
                        have p152 : 0 ≤ (x22_1 : Int) := of_decide_eq_true (by first | (with_reducible assumption) | assumption)
                        have q152 : x22_1 < (l1.length : Int) := of_decide_eq_true (by first | (with_reducible assumption) | assumption)
                        obtain ⟨ad152, e152, hx152_0⟩ := Kd.at_int HR1.out x22_1 p152 q152
                        cases e152
                        replace hx152_0 := (HB.out.cell (World.block_lt_of_cell? w _ hx152_0)).trans hx152_0
                        replace p152 := eq_true p152
                        replace q152 := eq_true q152
                        have p17 : 0 ≤ ((rd l1 x22_1) : Int) := of_decide_eq_true (by first | (with_reducible assumption) | assumption)
                        have q17 : ((rd l1 x22_1) : Int) < ((x6_1.length : Int) : Int) := of_decide_eq_true (by first | (with_reducible assumption) | assumption)
                        obtain ⟨go17, co17, eo17, gb17, gl17, cl17, HG17⟩ := Kd.R_form HO_6.out (by omega)
                        (first | cases eo17 | (injection eo17 with ea_ en_ ec_; (first | subst ea_ | (injection ea_ with ea_; subst ea_)); subst ec_; clear en_))
                        have GB17 := Aside0.mk gb17
                        have GG17 := Aside0.mk HG17
                        clear gb17 gl17 HG17
                        obtain ⟨hx17_0, hf17_0⟩ := Kd.R_celln 0 HO_6.out ((rd l1 x22_1) : Int) p17 q17
                        replace p17 := eq_true p17
                        replace q17 := eq_true q17
                        have HP18 := Kd.R_putg HO_6.out ((rd l1 x22_1) : Int) x22_1
                        go_wp2_with (first | ((with_reducible refine gate_store (t := 3) (p := 30) rfl ?_); (try (rw [drewN_self wr]; generalize hq_ : World.drewN wr _ = wr; (try (have z_ := (congrArg (fun W_ => World.frozen? W_ _) hq_).symm.trans hf17_0; clear hf17_0; have hf17_0 := z_; clear z_)); (try (have z_ := (congrArg (fun W_ => World.cell? W_ _) hq_).symm.trans hx152_0; clear hx152_0; have hx152_0 := z_; clear z_)); (try (have z_ := (congrArg (fun W_ => World.cell? W_ _) hq_).symm.trans hx17_0; clear hx17_0; have hx17_0 := z_; clear z_)); have n0_ := Aside0.mk (Kd.R_at hq_ HO_5.out); have n1_ := Aside0.mk (Kd.R_at hq_ HO_6.out); have n2_ := Aside0.mk (below_at hq_ HB.out); clear hq_ HO_5 HO_6 HB; have HO_5 := n0_; have HO_6 := n1_; have HB := n2_; clear n0_ n1_ n2_; (try (have HP18 := Kd.R_putg HO_6.out ((rd l1 x22_1) : Int) x22_1)))); refine store_event (t := 3) (p := 30) (v := ?vo_w19) (w1 := (wr.setCell ⟨go17, ((rd l1 x22_1) : Int).toNat, none⟩ (.int .i64 x22_1))) ?hg ?ho ?hn ?hr ?_; (case ho => rfl); (case hg => rfl); (case hn => rfl); (case hr => first | (go_simp; done) | (go_simp; rfl)); intro w19 hw; have hg : wr.grownBy w19 (some go17) := (by rw [hw]; exact HP18.2); have hp_ : Kd.R (Kd.int .i64) 3 w19 w.heap.size (fun k_ => some k_ ≠ (v147 : Value).ownBlock) (.slice (some ⟨go17, 0, none⟩) x6_1.length co17) y153 := (by rw [hw, Ny153.out]; exact HP18.1); clear HP18; have n0_ := Aside0.mk (Kd.R_after (v := (.slice (some ⟨go17, 0, none⟩) x6_1.length co17)) (v1 := (.slice (some ⟨go17, 0, none⟩) x6_1.length co17)) (ok := (fun _ => True)) (by (with_reducible repeat (first | apply Kd.R_alloc | apply Kd.R_drewN | apply Kd.R_drew)); exact Kd.R_mono HO_5.out (by first | exact fun _ hk => ⟨trivial, hk⟩ | (intro _ hk; (repeat' apply And.intro) <;> first | exact hk | exact hk.1 | exact hk.2 | exact hk.1.1 | exact hk.1.2 | exact hk.2.1 | exact hk.2.2 | exact hk.1.1.1 | exact hk.1.1.2 | exact hk.1.2.1 | exact hk.1.2.2 | exact hk.2.1.1 | exact hk.2.1.2 | exact hk.2.2.1 | exact hk.2.2.2))) hg (.inl rfl)); have n1_ := Aside0.mk (hp_); have n2_ := Aside0.mk ((by rw [hw]; exact below_set (HB.out) GB17.out : Below w.heap.size w w19)); clear HO_5; clear HO_6; clear HB; have HO_5 := n0_; have HO_6 := n1_; have HB := n2_; clear n0_ n1_ n2_; clear hg hw hp_))
                        repeat (go_quiet (first | ((with_reducible refine gate_store (t := 3) (p := 30) rfl ?_); (try (rw [drewN_self wr]; generalize hq_ : World.drewN wr _ = wr; (try (have z_ := (congrArg (fun W_ => World.frozen? W_ _) hq_).symm.trans hf17_0; clear hf17_0; have hf17_0 := z_; clear z_)); (try (have z_ := (congrArg (fun W_ => World.cell? W_ _) hq_).symm.trans hx152_0; clear hx152_0; have hx152_0 := z_; clear z_)); (try (have z_ := (congrArg (fun W_ => World.cell? W_ _) hq_).symm.trans hx17_0; clear hx17_0; have hx17_0 := z_; clear z_)); have n0_ := Aside0.mk (Kd.R_at hq_ HO_5.out); have n1_ := Aside0.mk (Kd.R_at hq_ HO_6.out); have n2_ := Aside0.mk (below_at hq_ HB.out); clear hq_ HO_5 HO_6 HB; have HO_5 := n0_; have HO_6 := n1_; have HB := n2_; clear n0_ n1_ n2_; (try (have HP18 := Kd.R_putg HO_6.out ((rd l1 x22_1) : Int) x22_1)))); refine store_event (t := 3) (p := 30) (v := ?vo_w19) (w1 := (wr.setCell ⟨go17, ((rd l1 x22_1) : Int).toNat, none⟩ (.int .i64 x22_1))) ?hg ?ho ?hn ?hr ?_; (case ho => rfl); (case hg => rfl); (case hn => rfl); (case hr => first | (go_simp; done) | (go_simp; rfl)); intro w19 hw; have hg : wr.grownBy w19 (some go17) := (by rw [hw]; exact HP18.2); have hp_ : Kd.R (Kd.int .i64) 3 w19 w.heap.size (fun k_ => some k_ ≠ (v147 : Value).ownBlock) (.slice (some ⟨go17, 0, none⟩) x6_1.length co17) y153 := (by rw [hw, Ny153.out]; exact HP18.1); clear HP18; have n0_ := Aside0.mk (Kd.R_after (v := (.slice (some ⟨go17, 0, none⟩) x6_1.length co17)) (v1 := (.slice (some ⟨go17, 0, none⟩) x6_1.length co17)) (ok := (fun _ => True)) (by (with_reducible repeat (first | apply Kd.R_alloc | apply Kd.R_drewN | apply Kd.R_drew)); exact Kd.R_mono HO_5.out (by first | exact fun _ hk => ⟨trivial, hk⟩ | (intro _ hk; (repeat' apply And.intro) <;> first | exact hk | exact hk.1 | exact hk.2 | exact hk.1.1 | exact hk.1.2 | exact hk.2.1 | exact hk.2.2 | exact hk.1.1.1 | exact hk.1.1.2 | exact hk.1.2.1 | exact hk.1.2.2 | exact hk.2.1.1 | exact hk.2.1.2 | exact hk.2.2.1 | exact hk.2.2.2))) hg (.inl rfl)); have n1_ := Aside0.mk (hp_); have n2_ := Aside0.mk ((by rw [hw]; exact below_set (HB.out) GB17.out : Below w.heap.size w w19)); clear HO_5; clear HO_6; clear HB; have HO_5 := n0_; have HO_6 := n1_; have HB := n2_; clear n0_ n1_ n2_; clear hg hw hp_)); try go_wp2_with (first | ((with_reducible refine gate_store (t := 3) (p := 30) rfl ?_); (try (rw [drewN_self wr]; generalize hq_ : World.drewN wr _ = wr; (try (have z_ := (congrArg (fun W_ => World.frozen? W_ _) hq_).symm.trans hf17_0; clear hf17_0; have hf17_0 := z_; clear z_)); (try (have z_ := (congrArg (fun W_ => World.cell? W_ _) hq_).symm.trans hx152_0; clear hx152_0; have hx152_0 := z_; clear z_)); (try (have z_ := (congrArg (fun W_ => World.cell? W_ _) hq_).symm.trans hx17_0; clear hx17_0; have hx17_0 := z_; clear z_)); have n0_ := Aside0.mk (Kd.R_at hq_ HO_5.out); have n1_ := Aside0.mk (Kd.R_at hq_ HO_6.out); have n2_ := Aside0.mk (below_at hq_ HB.out); clear hq_ HO_5 HO_6 HB; have HO_5 := n0_; have HO_6 := n1_; have HB := n2_; clear n0_ n1_ n2_; (try (have HP18 := Kd.R_putg HO_6.out ((rd l1 x22_1) : Int) x22_1)))); refine store_event (t := 3) (p := 30) (v := ?vo_w19) (w1 := (wr.setCell ⟨go17, ((rd l1 x22_1) : Int).toNat, none⟩ (.int .i64 x22_1))) ?hg ?ho ?hn ?hr ?_; (case ho => rfl); (case hg => rfl); (case hn => rfl); (case hr => first | (go_simp; done) | (go_simp; rfl)); intro w19 hw; have hg : wr.grownBy w19 (some go17) := (by rw [hw]; exact HP18.2); have hp_ : Kd.R (Kd.int .i64) 3 w19 w.heap.size (fun k_ => some k_ ≠ (v147 : Value).ownBlock) (.slice (some ⟨go17, 0, none⟩) x6_1.length co17) y153 := (by rw [hw, Ny153.out]; exact HP18.1); clear HP18; have n0_ := Aside0.mk (Kd.R_after (v := (.slice (some ⟨go17, 0, none⟩) x6_1.length co17)) (v1 := (.slice (some ⟨go17, 0, none⟩) x6_1.length co17)) (ok := (fun _ => True)) (by (with_reducible repeat (first | apply Kd.R_alloc | apply Kd.R_drewN | apply Kd.R_drew)); exact Kd.R_mono HO_5.out (by first | exact fun _ hk => ⟨trivial, hk⟩ | (intro _ hk; (repeat' apply And.intro) <;> first | exact hk | exact hk.1 | exact hk.2 | exact hk.1.1 | exact hk.1.2 | exact hk.2.1 | exact hk.2.2 | exact hk.1.1.1 | exact hk.1.1.2 | exact hk.1.2.1 | exact hk.1.2.2 | exact hk.2.1.1 | exact hk.2.1.2 | exact hk.2.2.1 | exact hk.2.2.2))) hg (.inl rfl)); have n1_ := Aside0.mk (hp_); have n2_ := Aside0.mk ((by rw [hw]; exact below_set (HB.out) GB17.out : Below w.heap.size w w19)); clear HO_5; clear HO_6; clear HB; have HO_5 := n0_; have HO_6 := n1_; have HB := n2_; clear n0_ n1_ n2_; clear hg hw hp_)))
                        first | go_roundg k1 | ((simp only [← hji3]); go_roundg k1)
                        case measure => have := HK1.out; omega
                        case rel => exact ⟨(y153), (wrap64 (x22_1 + 1)), (by first | rfl | (simp; done) | (simp [*]; done)), (by first | exact H' | ((simp only [hji3]); exact H') | (have h_ := H'.out; simp only [← hji3] at h_ ⊢; exact ⟨h_⟩)), ⟨by have := HK1.out; omega⟩, ⟨by (with_reducible repeat (first | apply Kd.R_alloc | apply Kd.R_drewN | apply Kd.R_drew)); exact Kd.R_mono HO_5.out (fun _ hk => hk.2)⟩, ⟨by (with_reducible repeat (first | apply Kd.R_alloc | apply Kd.R_drewN | apply Kd.R_drew)); exact HO_6.out⟩, ⟨by repeat (first | (with_reducible first | exact HB.out | apply below_alloc | apply pw_below_drewN | apply below_drew1) | exact HB.out)⟩⟩
                      · rw [if_neg c16] at H
                        exact absurd H (by simp)
                    · rw [if_neg c15] at H
                      exact absurd H (by simp)
                  · rw [if_neg c14] at H
                    exact absurd H (by simp)
                · rw [if_neg c13] at H
                  exact absurd H (by simp)
              · rw [if_neg c12] at H
                have c12b0 : decide (x22_1 < (l1.length : Int)) = false := decide_eq_false c12
                clear c12
                have H' := Aside0.mk H
                clear H
                go_wp2
                repeat (go_quiet (fail); try go_wp2)
                go_loopg [9, 34] k1 (fun kq v9 v34 w' => ∃ (x5_2 : List Int) (x9_2 : Int) (x34_2 : Int), v9 = .int .i64 x9_2 ∧ v34 = .int .i64 x34_2 ∧ Aside0 (ends_common.l1 kq l0 l1 x5_2 x6_1 x9_2 (l0.length : Int) x34_2 = some r) ∧ Aside0 (kq ≤ k1) ∧ Aside0 (Kd.R (Kd.int .i64) 3 w' w.heap.size (fun k_ => some k_ ≠ (v150 : Value).ownBlock) v147 x5_2) ∧ Aside0 (Kd.R (Kd.int .i64) 3 w' w.heap.size (fun k_ => some k_ ≠ (v147 : Value).ownBlock) v150 x6_1) ∧ Aside0 (Below w.heap.size w w'))
                case atStart => exact ⟨(y146), (0), (0), (by first | rfl | (simp; done) | (simp [*]; done)), (by first | rfl | (simp; done) | (simp [*]; done)), H', ⟨Nat.le_refl _⟩, ⟨by (with_reducible repeat (first | apply Kd.R_alloc | apply Kd.R_drewN | apply Kd.R_drew)); exact HO_5.out⟩, ⟨by (with_reducible repeat (first | apply Kd.R_alloc | apply Kd.R_drewN | apply Kd.R_drew)); exact HO_6.out⟩, ⟨by repeat (first | (with_reducible first | exact HB.out | apply below_alloc | apply pw_below_drewN | apply below_drew1) | exact HB.out)⟩⟩
                case round =>
                  clear H'
                  try clear c1
                  try clear p1
                  try clear q1
                  try clear hx1
                  try clear p2
                  try clear c4
                  try clear c4b0
                  try clear c4b1
                  try clear c5
                  try clear c5b0
                  try clear c5b1
                  try clear c6
                  try clear c6b0
                  try clear c6b1
                  try clear p6
                  try clear c7
                  try clear c7b0
                  try clear c7b1
                  try clear c12
                  try clear c12b0
                  try clear c13
                  try clear c13b0
                  try clear c14
                  try clear c14b0
                  try clear c15
                  try clear c15b0
                  try clear p15
                  try clear q15
                  try clear hx15
                  try clear c16
                  try clear c16b0
                  try clear p17
                  try clear q17
                  try clear hx17
                  try clear hf17
                  try clear hx152_0
                  try clear hx17_0
                  try clear p152
                  try clear p17
                  try clear p2
                  try clear p6
                  try clear q152
                  try clear q17
                  obtain ⟨x5_2, x9_2, x34_2, rfl, rfl, HA, HK2, HO_5, HO_6, HB⟩ := hrel
                  cases gk with
                  | zero => exact absurd HA.out (by simp [ends_common.l1])
                  | succ k2 =>
                    have H := HA.out
                    clear HA
                    simp only [ends_common.l1] at H
                    by_cases c20 : x34_2 < (l0.length : Int)
                    · rw [if_pos c20] at H
                      have c20b0 : decide (x34_2 < (l0.length : Int)) = true := decide_eq_true c20
                      clear c20
                      by_cases c21 : 0 ≤ x34_2
                      · rw [if_pos c21] at H
                        have c21b0 : decide (0 ≤ x34_2) = true := decide_eq_true c21
                        clear c21
                        by_cases c22 : x34_2 < (x6_1.length : Int)
                        · rw [if_pos c22] at H
                          have c22b0 : decide (x34_2 < (x6_1.length : Int)) = true := decide_eq_true c22
                          clear c22
                          by_cases c23 : (rd x6_1 x34_2) = 0
                          · rw [if_pos c23] at H
                            have c23b0 : ((rd x6_1 x34_2) == 0) = true := beq_iff_eq.mpr c23
                            have c23b1 : ((rd x6_1 x34_2) != 0) = false := bne_eq_false_iff_eq.mpr c23
                            clear c23
                            have H' := Aside0.mk H
                            clear H
                            obtain ⟨Ao24, co24, eo24⟩ := Kd.R_slice HO_6.out
                            subst eo24
                            have p154 : 0 ≤ (x34_2 : Int) := of_decide_eq_true (by first | (with_reducible assumption) | assumption)
                            have q154 : x34_2 < (x6_1.length : Int) := of_decide_eq_true (by first | (with_reducible assumption) | assumption)
                            obtain ⟨ad154, e154, hx154_0⟩ := Kd.at_int (Kd.R_reads' HO_6.out).2.2 x34_2 p154 q154
                            cases e154
                            replace p154 := eq_true p154
                            replace q154 := eq_true q154
                            go_wp2
                            repeat (go_quiet (fail); try go_wp2)
                            first | go_roundg k2 | ((simp only [← hji3]); go_roundg k2)
                            case measure => have := HK1.out; have := HK2.out; omega
                            case rel => exact ⟨(x5_2), (0), (wrap64 (x34_2 + 1)), (by first | rfl | (simp; done) | (simp [*]; done)), (by first | rfl | (simp; done) | (simp [*]; done)), (by first | exact H' | ((simp only [hji3]); exact H') | (have h_ := H'.out; simp only [← hji3] at h_ ⊢; exact ⟨h_⟩)), ⟨by have := HK1.out; have := HK2.out; omega⟩, ⟨by (with_reducible repeat (first | apply Kd.R_alloc | apply Kd.R_drewN | apply Kd.R_drew)); exact HO_5.out⟩, ⟨by (with_reducible repeat (first | apply Kd.R_alloc | apply Kd.R_drewN | apply Kd.R_drew)); exact HO_6.out⟩, ⟨by repeat (first | (with_reducible first | exact HB.out | apply below_alloc | apply pw_below_drewN | apply below_drew1) | exact HB.out)⟩⟩
                          · rw [if_neg c23] at H
                            have c23b0 : ((rd x6_1 x34_2) == 0) = false := beq_eq_false_iff_ne.mpr c23
                            have c23b1 : ((rd x6_1 x34_2) != 0) = true := bne_iff_ne.mpr c23
                            obtain ⟨ji25, hji25⟩ : ∃ j_ : Int, (wrap64 ((rd x6_1 x34_2) - 1)) = j_ := ⟨_, rfl⟩
                            replace H : (if 0 ≤ (ji25) then (if (ji25) < (l1.length : Int) then (ends_common.l2 k2 l0 l1 x5_2 x6_1 x9_2 x34_2 (rd l1 (ji25)) (l0.length : Int) x34_2) else (none)) else (none)) = some r := by first | (rw [hji25] at H; exact H) | (simp only [hji25] at H ⊢; exact H)
                            have hji25w : (IntKind.i64.wrap ((rd x6_1 x34_2) - 1)) = ji25 := (i64_w _).trans hji25
                            by_cases c26 : 0 ≤ (ji25)
                            · rw [if_pos c26] at H
                              have c26b0 : decide (0 ≤ (ji25)) = true := decide_eq_true c26
                              clear c26
                              by_cases c27 : (ji25) < (l1.length : Int)
                              · rw [if_pos c27] at H
                                have c27b0 : decide ((ji25) < (l1.length : Int)) = true := decide_eq_true c27
                                clear c27
                                have H' := Aside0.mk H
                                clear H
                                obtain ⟨Ao28, co28, eo28⟩ := Kd.R_slice HO_6.out
                                subst eo28
                                have p154 : 0 ≤ (x34_2 : Int) := of_decide_eq_true (by first | (with_reducible assumption) | assumption)
                                have q154 : x34_2 < (x6_1.length : Int) := of_decide_eq_true (by first | (with_reducible assumption) | assumption)
                                obtain ⟨ad154, e154, hx154_0⟩ := Kd.at_int (Kd.R_reads' HO_6.out).2.2 x34_2 p154 q154
                                cases e154
                                replace p154 := eq_true p154
                                replace q154 := eq_true q154
                                have p155 : 0 ≤ (x34_2 : Int) := of_decide_eq_true (by first | (with_reducible assumption) | assumption)
                                have q155 : x34_2 < (x6_1.length : Int) := of_decide_eq_true (by first | (with_reducible assumption) | assumption)
                                obtain ⟨ad155, e155, hx155_0⟩ := Kd.at_int (Kd.R_reads' HO_6.out).2.2 x34_2 p155 q155
                                obtain rfl : ad154 = ad155 := (by injection e155)
                                replace p155 := eq_true p155
                                replace q155 := eq_true q155
                                have p156 : 0 ≤ ((ji25) : Int) := of_decide_eq_true (by first | (with_reducible assumption) | assumption)
                                have q156 : (ji25) < (l1.length : Int) := of_decide_eq_true (by first | (with_reducible assumption) | assumption)
                                obtain ⟨ad156, e156, hx156_0⟩ := Kd.at_int HR1.out (ji25) p156 q156
                                cases e156
                                replace hx156_0 := (HB.out.cell (World.block_lt_of_cell? w _ hx156_0)).trans hx156_0
                                replace p156 := eq_true p156
                                replace q156 := eq_true q156
                                go_wp2
                                repeat (go_quiet (fail); try go_wp2)
                                go_loopg [9] k2 (fun kq v9 w' => ∃ (x9_3 : Int), v9 = .int .i64 x9_3 ∧ Aside0 (ends_common.l2 kq l0 l1 x5_2 x6_1 x9_3 x34_2 (rd l1 (ji25)) (l0.length : Int) x34_2 = some r) ∧ Aside0 (kq ≤ k2) ∧ Aside0 (Kd.R (Kd.int .i64) 3 w' w.heap.size (fun k_ => some k_ ≠ ((.slice (some ad154) x6_1.length co28) : Value).ownBlock) v147 x5_2) ∧ Aside0 (Kd.R (Kd.int .i64) 3 w' w.heap.size (fun k_ => some k_ ≠ (v147 : Value).ownBlock) (.slice (some ad154) x6_1.length co28) x6_1) ∧ Aside0 (Below w.heap.size w w'))
                                case atStart => exact ⟨(x9_2), (by first | rfl | (simp; done) | (simp [*]; done)), H', ⟨Nat.le_refl _⟩, ⟨by (with_reducible repeat (first | apply Kd.R_alloc | apply Kd.R_drewN | apply Kd.R_drew)); exact HO_5.out⟩, ⟨by (with_reducible repeat (first | apply Kd.R_alloc | apply Kd.R_drewN | apply Kd.R_drew)); exact HO_6.out⟩, ⟨by repeat (first | (with_reducible first | exact HB.out | apply below_alloc | apply pw_below_drewN | apply below_drew1) | exact HB.out)⟩⟩
                                case round =>
                                  clear H'
                                  try clear c1
                                  try clear p1
                                  try clear q1
                                  try clear hx1
                                  try clear c2
                                  try clear p2
                                  try clear c4
                                  try clear c4b0
                                  try clear c4b1
                                  try clear c5
                                  try clear c5b0
                                  try clear c5b1
                                  try clear c6
                                  try clear c6b0
                                  try clear c6b1
                                  try clear p6
                                  try clear c7
                                  try clear c7b0
                                  try clear c7b1
                                  try clear c12
                                  try clear c12b0
                                  try clear c13
                                  try clear c13b0
                                  try clear c14
                                  try clear c14b0
                                  try clear c15
                                  try clear c15b0
                                  try clear p15
                                  try clear q15
                                  try clear hx15
                                  try clear c16
                                  try clear c16b0
                                  try clear p17
                                  try clear q17
                                  try clear hx17
                                  try clear hf17
                                  try clear c20
                                  try clear c20b0
                                  try clear c21
                                  try clear c21b0
                                  try clear c22
                                  try clear c22b0
                                  try clear c23
                                  try clear c23b0
                                  try clear c23b1
                                  try clear c26
                                  try clear c26b0
                                  try clear c27
                                  try clear c27b0
                                  try clear hx152_0
                                  try clear hx154_0
                                  try clear hx155_0
                                  try clear hx156_0
                                  try clear hx17_0
                                  try clear p1
                                  try clear p15
                                  try clear p152
                                  try clear p154
                                  try clear p155
                                  try clear p156
                                  try clear p17
                                  try clear p2
                                  try clear p6
                                  try clear q1
                                  try clear q15
                                  try clear q152
                                  try clear q154
                                  try clear q155
                                  try clear q156
                                  try clear q17
                                  obtain ⟨x9_3, rfl, HA, HK3, HO_5, HO_6, HB⟩ := hrel
                                  cases gk with
                                  | zero => exact absurd HA.out (by simp [ends_common.l2])
                                  | succ k3 =>
                                    have H := HA.out
                                    clear HA
                                    simp only [ends_common.l2] at H
                                    by_cases c29 : (wrap64 (x34_2 + x9_3)) < (l0.length : Int)
                                    · rw [if_pos c29] at H
                                      have c29b0 : decide ((wrap64 (x34_2 + x9_3)) < (l0.length : Int)) = true := decide_eq_true c29
                                      clear c29
                                      by_cases c30 : (wrap64 ((rd l1 (ji25)) + x9_3)) < (l0.length : Int)
                                      · rw [if_pos c30] at H
                                        have c30b0 : decide ((wrap64 ((rd l1 (ji25)) + x9_3)) < (l0.length : Int)) = true := decide_eq_true c30
                                        clear c30
                                        obtain ⟨ji31, hji31⟩ : ∃ j_ : Int, (wrap64 (x34_2 + x9_3)) = j_ := ⟨_, rfl⟩
                                        replace H : (if 0 ≤ (ji31) then (if 0 ≤ (wrap64 ((rd l1 (ji25)) + x9_3)) then (if (rd l0 (ji31)) = (rd l0 (wrap64 ((rd l1 (ji25)) + x9_3))) then (ends_common.l2 k3 l0 l1 x5_2 x6_1 (wrap64 (x9_3 + 1)) x34_2 (rd l1 (ji25)) (l0.length : Int) x34_2) else (if 0 ≤ x34_2 then (if x34_2 < (x6_1.length : Int) then (if 0 ≤ (wrap64 ((rd x6_1 x34_2) - 1)) then (if (wrap64 ((rd x6_1 x34_2) - 1)) < (x5_2.length : Int) then (ends_common.l1 k3 l0 l1 (x5_2.set ((wrap64 ((rd x6_1 x34_2) - 1)) : Int).toNat x9_3) x6_1 (mx (wrap64 (x9_3 - 1)) 0) (l0.length : Int) (wrap64 (x34_2 + 1))) else (none)) else (none)) else (none)) else (none))) else (none)) else (none)) = some r := by first | (rw [hji31] at H; exact H) | (simp only [hji31] at H ⊢; exact H)
                                        (try rw [hji31] at c29b0)
                                        have hji31w : (IntKind.i64.wrap (x34_2 + x9_3)) = ji31 := (i64_w _).trans hji31
                                        by_cases c32 : 0 ≤ (ji31)
                                        · rw [if_pos c32] at H
                                          have c32b0 : decide (0 ≤ (ji31)) = true := decide_eq_true c32
                                          clear c32
                                          obtain ⟨ji33, hji33⟩ : ∃ j_ : Int, (wrap64 ((rd l1 (ji25)) + x9_3)) = j_ := ⟨_, rfl⟩
                                          replace H : (if 0 ≤ (ji33) then (if (rd l0 (ji31)) = (rd l0 (ji33)) then (ends_common.l2 k3 l0 l1 x5_2 x6_1 (wrap64 (x9_3 + 1)) x34_2 (rd l1 (ji25)) (l0.length : Int) x34_2) else (if 0 ≤ x34_2 then (if x34_2 < (x6_1.length : Int) then (if 0 ≤ (wrap64 ((rd x6_1 x34_2) - 1)) then (if (wrap64 ((rd x6_1 x34_2) - 1)) < (x5_2.length : Int) then (ends_common.l1 k3 l0 l1 (x5_2.set ((wrap64 ((rd x6_1 x34_2) - 1)) : Int).toNat x9_3) x6_1 (mx (wrap64 (x9_3 - 1)) 0) (l0.length : Int) (wrap64 (x34_2 + 1))) else (none)) else (none)) else (none)) else (none))) else (none)) = some r := by first | (rw [hji33] at H; exact H) | (simp only [hji33] at H ⊢; exact H)
                                          (try rw [hji33] at c30b0)
                                          have hji33w : (IntKind.i64.wrap ((rd l1 (ji25)) + x9_3)) = ji33 := (i64_w _).trans hji33
                                          by_cases c34 : 0 ≤ (ji33)
                                          · rw [if_pos c34] at H
                                            have c34b0 : decide (0 ≤ (ji33)) = true := decide_eq_true c34
                                            clear c34
                                            by_cases c35 : (rd l0 (ji31)) = (rd l0 (ji33))
                                            · rw [if_pos c35] at H
                                              have c35b0 : ((rd l0 (ji31)) == (rd l0 (ji33))) = true := beq_iff_eq.mpr c35
                                              have c35b1 : ((rd l0 (ji31)) != (rd l0 (ji33))) = false := bne_eq_false_iff_eq.mpr c35
                                              clear c35
                                              have H' := Aside0.mk H
                                              clear H
                                              have p157 : 0 ≤ ((ji31) : Int) := of_decide_eq_true (by first | (with_reducible assumption) | assumption)
                                              have q157 : (ji31) < (l0.length : Int) := of_decide_eq_true (by first | (with_reducible assumption) | assumption)
                                              obtain ⟨ad157, e157, hx157_0⟩ := Kd.at_int HR0.out (ji31) p157 q157
                                              cases e157
                                              replace hx157_0 := (HB.out.cell (World.block_lt_of_cell? w _ hx157_0)).trans hx157_0
                                              replace p157 := eq_true p157
                                              replace q157 := eq_true q157
                                              have p158 : 0 ≤ ((ji33) : Int) := of_decide_eq_true (by first | (with_reducible assumption) | assumption)
                                              have q158 : (ji33) < (l0.length : Int) := of_decide_eq_true (by first | (with_reducible assumption) | assumption)
                                              obtain ⟨ad158, e158, hx158_0⟩ := Kd.at_int HR0.out (ji33) p158 q158
                                              obtain rfl : ad157 = ad158 := (by injection e158)
                                              replace hx158_0 := (HB.out.cell (World.block_lt_of_cell? w _ hx158_0)).trans hx158_0
                                              replace p158 := eq_true p158
                                              replace q158 := eq_true q158
                                              go_wp2
                                              repeat (go_quiet (fail); try go_wp2)
                                              first | go_roundg k3 | ((simp only [← hji3, ← hji25, ← hji31, ← hji33]); go_roundg k3)
                                              case measure => have := HK1.out; have := HK2.out; have := HK3.out; omega
                                              case rel => exact ⟨(wrap64 (x9_3 + 1)), (by first | rfl | (simp; done) | (simp [*]; done)), (by first | exact H' | ((simp only [hji3, hji25, hji31, hji33]); exact H') | (have h_ := H'.out; simp only [← hji3, ← hji25, ← hji31, ← hji33] at h_ ⊢; exact ⟨h_⟩)), ⟨by have := HK1.out; have := HK2.out; have := HK3.out; omega⟩, ⟨by (with_reducible repeat (first | apply Kd.R_alloc | apply Kd.R_drewN | apply Kd.R_drew)); exact HO_5.out⟩, ⟨by (with_reducible repeat (first | apply Kd.R_alloc | apply Kd.R_drewN | apply Kd.R_drew)); exact HO_6.out⟩, ⟨by repeat (first | (with_reducible first | exact HB.out | apply below_alloc | apply pw_below_drewN | apply below_drew1) | exact HB.out)⟩⟩
                                            · rw [if_neg c35] at H
                                              have c35b0 : ((rd l0 (ji31)) == (rd l0 (ji33))) = false := beq_eq_false_iff_ne.mpr c35
                                              have c35b1 : ((rd l0 (ji31)) != (rd l0 (ji33))) = true := bne_iff_ne.mpr c35
                                              by_cases c36 : 0 ≤ x34_2
                                              · rw [if_pos c36] at H
                                                have c36b0 : decide (0 ≤ x34_2) = true := decide_eq_true c36
                                                clear c36
                                                by_cases c37 : x34_2 < (x6_1.length : Int)
                                                · rw [if_pos c37] at H
                                                  have c37b0 : decide (x34_2 < (x6_1.length : Int)) = true := decide_eq_true c37
                                                  clear c37
                                                  replace H : (if 0 ≤ (ji25) then (if (ji25) < (x5_2.length : Int) then (ends_common.l1 k3 l0 l1 (x5_2.set ((ji25) : Int).toNat x9_3) x6_1 (mx (wrap64 (x9_3 - 1)) 0) (l0.length : Int) (wrap64 (x34_2 + 1))) else (none)) else (none)) = some r := by first | (rw [hji25] at H; exact H) | (simp only [hji25] at H ⊢; exact H)
                                                  by_cases c38 : 0 ≤ (ji25)
                                                  · rw [if_pos c38] at H
                                                    have c38b0 : decide (0 ≤ (ji25)) = true := decide_eq_true c38
                                                    clear c38
                                                    by_cases c39 : (ji25) < (x5_2.length : Int)
                                                    · rw [if_pos c39] at H
                                                      have c39b0 : decide ((ji25) < (x5_2.length : Int)) = true := decide_eq_true c39
                                                      clear c39
                                                      obtain ⟨y160, hy160⟩ : ∃ y_ : List Int, y_ = (x5_2.set ((ji25) : Int).toNat x9_3) := ⟨_, rfl⟩
                                                      replace H : (ends_common.l1 k3 l0 l1 y160 x6_1 (mx (wrap64 (x9_3 - 1)) 0) (l0.length : Int) (wrap64 (x34_2 + 1))) = some r := by first | (rw [hy160]; with_reducible exact H) | (have H2_ := (Option.bind_some _ _).symm.trans H; rw [hy160]; with_reducible exact H2_) | (have H2_ := (Option.bind_some _ _).symm.trans H; with_reducible exact H2_) | with_reducible exact H | (rw [hy160]; exact H) | exact H
                                                      have Ny160 := Aside0.mk hy160
                                                      clear hy160
                                                      obtain ⟨ji41, hji41⟩ : ∃ j_ : Int, (mx (wrap64 (x9_3 - 1)) 0) = j_ := ⟨_, rfl⟩
                                                      replace H : (ends_common.l1 k3 l0 l1 y160 x6_1 ji41 (l0.length : Int) (wrap64 (x34_2 + 1))) = some r := by first | (rw [hji41] at H; exact H) | (simp only [hji41] at H ⊢; exact H)
                                                      have hji41_ : (if (wrap64 (x9_3 - 1)) < 0 then 0 else (wrap64 (x9_3 - 1))) = ji41 := hji41
                                                      have H' := Aside0.mk H
                                                      clear H
                                                      have p157 : 0 ≤ ((ji31) : Int) := of_decide_eq_true (by first | (with_reducible assumption) | assumption)
                                                      have q157 : (ji31) < (l0.length : Int) := of_decide_eq_true (by first | (with_reducible assumption) | assumption)
                                                      obtain ⟨ad157, e157, hx157_0⟩ := Kd.at_int HR0.out (ji31) p157 q157
                                                      cases e157
                                                      replace hx157_0 := (HB.out.cell (World.block_lt_of_cell? w _ hx157_0)).trans hx157_0
                                                      replace p157 := eq_true p157
                                                      replace q157 := eq_true q157
                                                      have p158 : 0 ≤ ((ji33) : Int) := of_decide_eq_true (by first | (with_reducible assumption) | assumption)
                                                      have q158 : (ji33) < (l0.length : Int) := of_decide_eq_true (by first | (with_reducible assumption) | assumption)
                                                      obtain ⟨ad158, e158, hx158_0⟩ := Kd.at_int HR0.out (ji33) p158 q158
                                                      obtain rfl : ad157 = ad158 := (by injection e158)
                                                      replace hx158_0 := (HB.out.cell (World.block_lt_of_cell? w _ hx158_0)).trans hx158_0
                                                      replace p158 := eq_true p158
                                                      replace q158 := eq_true q158
                                                      have p159 : 0 ≤ (x34_2 : Int) := of_decide_eq_true (by first | (with_reducible assumption) | assumption)
                                                      have q159 : x34_2 < (x6_1.length : Int) := of_decide_eq_true (by first | (with_reducible assumption) | assumption)
                                                      obtain ⟨ad159, e159, hx159_0⟩ := Kd.at_int (Kd.R_reads' HO_6.out).2.2 x34_2 p159 q159
                                                      obtain rfl : ad154 = ad159 := (by injection e159)
                                                      replace p159 := eq_true p159
                                                      replace q159 := eq_true q159
                                                      have p40 : 0 ≤ ((ji25) : Int) := of_decide_eq_true (by first | (with_reducible assumption) | assumption)
                                                      have q40 : ((ji25) : Int) < ((x5_2.length : Int) : Int) := of_decide_eq_true (by first | (with_reducible assumption) | assumption)
                                                      obtain ⟨go40, co40, eo40, gb40, gl40, cl40, HG40⟩ := Kd.R_form HO_5.out (by omega)
                                                      (first | cases eo40 | (injection eo40 with ea_ en_ ec_; (first | subst ea_ | (injection ea_ with ea_; subst ea_)); subst ec_; clear en_))
                                                      have GB40 := Aside0.mk gb40
                                                      have GG40 := Aside0.mk HG40
                                                      clear gb40 gl40 HG40
                                                      obtain ⟨hx40_0, hf40_0⟩ := Kd.R_celln 0 HO_5.out ((ji25) : Int) p40 q40
                                                      replace p40 := eq_true p40
                                                      replace q40 := eq_true q40
                                                      have HP42 := Kd.R_putg HO_5.out ((ji25) : Int) x9_3
                                                      go_wp2_with (first | ((with_reducible refine gate_store (t := 3) (p := 88) rfl ?_); (try (rw [drewN_self wr]; generalize hq_ : World.drewN wr _ = wr; (try (have z_ := (congrArg (fun W_ => World.frozen? W_ _) hq_).symm.trans hf40_0; clear hf40_0; have hf40_0 := z_; clear z_)); (try (have z_ := (congrArg (fun W_ => World.cell? W_ _) hq_).symm.trans hx157_0; clear hx157_0; have hx157_0 := z_; clear z_)); (try (have z_ := (congrArg (fun W_ => World.cell? W_ _) hq_).symm.trans hx158_0; clear hx158_0; have hx158_0 := z_; clear z_)); (try (have z_ := (congrArg (fun W_ => World.cell? W_ _) hq_).symm.trans hx159_0; clear hx159_0; have hx159_0 := z_; clear z_)); (try (have z_ := (congrArg (fun W_ => World.cell? W_ _) hq_).symm.trans hx40_0; clear hx40_0; have hx40_0 := z_; clear z_)); have n0_ := Aside0.mk (Kd.R_at hq_ HO_5.out); have n1_ := Aside0.mk (Kd.R_at hq_ HO_6.out); have n2_ := Aside0.mk (below_at hq_ HB.out); clear hq_ HO_5 HO_6 HB; have HO_5 := n0_; have HO_6 := n1_; have HB := n2_; clear n0_ n1_ n2_; (try (have HP42 := Kd.R_putg HO_5.out ((ji25) : Int) x9_3)))); refine store_event (t := 3) (p := 88) (v := ?vo_w43) (w1 := (wr.setCell ⟨go40, ((ji25) : Int).toNat, none⟩ (.int .i64 x9_3))) ?hg ?ho ?hn ?hr ?_; (case ho => rfl); (case hg => rfl); (case hn => rfl); (case hr => first | (go_simp; done) | (go_simp; rfl)); intro w43 hw; have hg : wr.grownBy w43 (some go40) := (by rw [hw]; exact HP42.2); have hp_ : Kd.R (Kd.int .i64) 3 w43 w.heap.size (fun k_ => some k_ ≠ (.slice (some ad154) x6_1.length co28 : Value).ownBlock) (.slice (some ⟨go40, 0, none⟩) x5_2.length co40) y160 := (by rw [hw, Ny160.out]; exact HP42.1); clear HP42; have n0_ := Aside0.mk (hp_); have n1_ := Aside0.mk (Kd.R_after (v := (.slice (some ⟨go40, 0, none⟩) x5_2.length co40)) (v1 := (.slice (some ⟨go40, 0, none⟩) x5_2.length co40)) (ok := (fun _ => True)) (by (with_reducible repeat (first | apply Kd.R_alloc | apply Kd.R_drewN | apply Kd.R_drew)); exact Kd.R_mono HO_6.out (by first | exact fun _ hk => ⟨trivial, hk⟩ | (intro _ hk; (repeat' apply And.intro) <;> first | exact hk | exact hk.1 | exact hk.2 | exact hk.1.1 | exact hk.1.2 | exact hk.2.1 | exact hk.2.2 | exact hk.1.1.1 | exact hk.1.1.2 | exact hk.1.2.1 | exact hk.1.2.2 | exact hk.2.1.1 | exact hk.2.1.2 | exact hk.2.2.1 | exact hk.2.2.2))) hg (.inl rfl)); have n2_ := Aside0.mk ((by rw [hw]; exact below_set (HB.out) GB40.out : Below w.heap.size w w43)); clear HO_5; clear HO_6; clear HB; have HO_5 := n0_; have HO_6 := n1_; have HB := n2_; clear n0_ n1_ n2_; clear hg hw hp_))
                                                      repeat (go_quiet (first | ((with_reducible refine gate_store (t := 3) (p := 88) rfl ?_); (try (rw [drewN_self wr]; generalize hq_ : World.drewN wr _ = wr; (try (have z_ := (congrArg (fun W_ => World.frozen? W_ _) hq_).symm.trans hf40_0; clear hf40_0; have hf40_0 := z_; clear z_)); (try (have z_ := (congrArg (fun W_ => World.cell? W_ _) hq_).symm.trans hx157_0; clear hx157_0; have hx157_0 := z_; clear z_)); (try (have z_ := (congrArg (fun W_ => World.cell? W_ _) hq_).symm.trans hx158_0; clear hx158_0; have hx158_0 := z_; clear z_)); (try (have z_ := (congrArg (fun W_ => World.cell? W_ _) hq_).symm.trans hx159_0; clear hx159_0; have hx159_0 := z_; clear z_)); (try (have z_ := (congrArg (fun W_ => World.cell? W_ _) hq_).symm.trans hx40_0; clear hx40_0; have hx40_0 := z_; clear z_)); have n0_ := Aside0.mk (Kd.R_at hq_ HO_5.out); have n1_ := Aside0.mk (Kd.R_at hq_ HO_6.out); have n2_ := Aside0.mk (below_at hq_ HB.out); clear hq_ HO_5 HO_6 HB; have HO_5 := n0_; have HO_6 := n1_; have HB := n2_; clear n0_ n1_ n2_; (try (have HP42 := Kd.R_putg HO_5.out ((ji25) : Int) x9_3)))); refine store_event (t := 3) (p := 88) (v := ?vo_w43) (w1 := (wr.setCell ⟨go40, ((ji25) : Int).toNat, none⟩ (.int .i64 x9_3))) ?hg ?ho ?hn ?hr ?_; (case ho => rfl); (case hg => rfl); (case hn => rfl); (case hr => first | (go_simp; done) | (go_simp; rfl)); intro w43 hw; have hg : wr.grownBy w43 (some go40) := (by rw [hw]; exact HP42.2); have hp_ : Kd.R (Kd.int .i64) 3 w43 w.heap.size (fun k_ => some k_ ≠ (.slice (some ad154) x6_1.length co28 : Value).ownBlock) (.slice (some ⟨go40, 0, none⟩) x5_2.length co40) y160 := (by rw [hw, Ny160.out]; exact HP42.1); clear HP42; have n0_ := Aside0.mk (hp_); have n1_ := Aside0.mk (Kd.R_after (v := (.slice (some ⟨go40, 0, none⟩) x5_2.length co40)) (v1 := (.slice (some ⟨go40, 0, none⟩) x5_2.length co40)) (ok := (fun _ => True)) (by (with_reducible repeat (first | apply Kd.R_alloc | apply Kd.R_drewN | apply Kd.R_drew)); exact Kd.R_mono HO_6.out (by first | exact fun _ hk => ⟨trivial, hk⟩ | (intro _ hk; (repeat' apply And.intro) <;> first | exact hk | exact hk.1 | exact hk.2 | exact hk.1.1 | exact hk.1.2 | exact hk.2.1 | exact hk.2.2 | exact hk.1.1.1 | exact hk.1.1.2 | exact hk.1.2.1 | exact hk.1.2.2 | exact hk.2.1.1 | exact hk.2.1.2 | exact hk.2.2.1 | exact hk.2.2.2))) hg (.inl rfl)); have n2_ := Aside0.mk ((by rw [hw]; exact below_set (HB.out) GB40.out : Below w.heap.size w w43)); clear HO_5; clear HO_6; clear HB; have HO_5 := n0_; have HO_6 := n1_; have HB := n2_; clear n0_ n1_ n2_; clear hg hw hp_)); try go_wp2_with (first | ((with_reducible refine gate_store (t := 3) (p := 88) rfl ?_); (try (rw [drewN_self wr]; generalize hq_ : World.drewN wr _ = wr; (try (have z_ := (congrArg (fun W_ => World.frozen? W_ _) hq_).symm.trans hf40_0; clear hf40_0; have hf40_0 := z_; clear z_)); (try (have z_ := (congrArg (fun W_ => World.cell? W_ _) hq_).symm.trans hx157_0; clear hx157_0; have hx157_0 := z_; clear z_)); (try (have z_ := (congrArg (fun W_ => World.cell? W_ _) hq_).symm.trans hx158_0; clear hx158_0; have hx158_0 := z_; clear z_)); (try (have z_ := (congrArg (fun W_ => World.cell? W_ _) hq_).symm.trans hx159_0; clear hx159_0; have hx159_0 := z_; clear z_)); (try (have z_ := (congrArg (fun W_ => World.cell? W_ _) hq_).symm.trans hx40_0; clear hx40_0; have hx40_0 := z_; clear z_)); have n0_ := Aside0.mk (Kd.R_at hq_ HO_5.out); have n1_ := Aside0.mk (Kd.R_at hq_ HO_6.out); have n2_ := Aside0.mk (below_at hq_ HB.out); clear hq_ HO_5 HO_6 HB; have HO_5 := n0_; have HO_6 := n1_; have HB := n2_; clear n0_ n1_ n2_; (try (have HP42 := Kd.R_putg HO_5.out ((ji25) : Int) x9_3)))); refine store_event (t := 3) (p := 88) (v := ?vo_w43) (w1 := (wr.setCell ⟨go40, ((ji25) : Int).toNat, none⟩ (.int .i64 x9_3))) ?hg ?ho ?hn ?hr ?_; (case ho => rfl); (case hg => rfl); (case hn => rfl); (case hr => first | (go_simp; done) | (go_simp; rfl)); intro w43 hw; have hg : wr.grownBy w43 (some go40) := (by rw [hw]; exact HP42.2); have hp_ : Kd.R (Kd.int .i64) 3 w43 w.heap.size (fun k_ => some k_ ≠ (.slice (some ad154) x6_1.length co28 : Value).ownBlock) (.slice (some ⟨go40, 0, none⟩) x5_2.length co40) y160 := (by rw [hw, Ny160.out]; exact HP42.1); clear HP42; have n0_ := Aside0.mk (hp_); have n1_ := Aside0.mk (Kd.R_after (v := (.slice (some ⟨go40, 0, none⟩) x5_2.length co40)) (v1 := (.slice (some ⟨go40, 0, none⟩) x5_2.length co40)) (ok := (fun _ => True)) (by (with_reducible repeat (first | apply Kd.R_alloc | apply Kd.R_drewN | apply Kd.R_drew)); exact Kd.R_mono HO_6.out (by first | exact fun _ hk => ⟨trivial, hk⟩ | (intro _ hk; (repeat' apply And.intro) <;> first | exact hk | exact hk.1 | exact hk.2 | exact hk.1.1 | exact hk.1.2 | exact hk.2.1 | exact hk.2.2 | exact hk.1.1.1 | exact hk.1.1.2 | exact hk.1.2.1 | exact hk.1.2.2 | exact hk.2.1.1 | exact hk.2.1.2 | exact hk.2.2.1 | exact hk.2.2.2))) hg (.inl rfl)); have n2_ := Aside0.mk ((by rw [hw]; exact below_set (HB.out) GB40.out : Below w.heap.size w w43)); clear HO_5; clear HO_6; clear HB; have HO_5 := n0_; have HO_6 := n1_; have HB := n2_; clear n0_ n1_ n2_; clear hg hw hp_)))
                                                      first | go_roundg k3 | ((simp only [← hji3, ← hji25, ← hji31, ← hji33, ← hji41]); go_roundg k3)
                                                      case measure => have := HK1.out; have := HK2.out; have := HK3.out; omega
                                                      case rel => exact ⟨(y160), (ji41), (wrap64 (x34_2 + 1)), (by first | rfl | (simp; done) | (simp only [← hji41] <;> (first | rfl | simp)) | (simp [*]; done)), (by first | rfl | (simp; done) | (simp [*]; done)), (by first | exact H' | ((simp only [hji3, hji25, hji31, hji33, hji41]); exact H') | (have h_ := H'.out; simp only [← hji3, ← hji25, ← hji31, ← hji33, ← hji41] at h_ ⊢; exact ⟨h_⟩)), ⟨by have := HK1.out; have := HK2.out; have := HK3.out; omega⟩, ⟨by (with_reducible repeat (first | apply Kd.R_alloc | apply Kd.R_drewN | apply Kd.R_drew)); exact HO_5.out⟩, ⟨by (with_reducible repeat (first | apply Kd.R_alloc | apply Kd.R_drewN | apply Kd.R_drew)); exact Kd.R_mono HO_6.out (fun _ hk => hk.2)⟩, ⟨by repeat (first | (with_reducible first | exact HB.out | apply below_alloc | apply pw_below_drewN | apply below_drew1) | exact HB.out)⟩⟩
                                                    · rw [if_neg c39] at H
                                                      exact absurd H (by simp)
                                                  · rw [if_neg c38] at H
                                                    exact absurd H (by simp)
                                                · rw [if_neg c37] at H
                                                  exact absurd H (by simp)
                                              · rw [if_neg c36] at H
                                                exact absurd H (by simp)
                                          · rw [if_neg c34] at H
                                            exact absurd H (by simp)
                                        · rw [if_neg c32] at H
                                          exact absurd H (by simp)
                                      · rw [if_neg c30] at H
                                        have c30b0 : decide ((wrap64 ((rd l1 (ji25)) + x9_3)) < (l0.length : Int)) = false := decide_eq_false c30
                                        clear c30
                                        by_cases c44 : 0 ≤ x34_2
                                        · rw [if_pos c44] at H
                                          have c44b0 : decide (0 ≤ x34_2) = true := decide_eq_true c44
                                          clear c44
                                          by_cases c45 : x34_2 < (x6_1.length : Int)
                                          · rw [if_pos c45] at H
                                            have c45b0 : decide (x34_2 < (x6_1.length : Int)) = true := decide_eq_true c45
                                            clear c45
                                            replace H : (if 0 ≤ (ji25) then (if (ji25) < (x5_2.length : Int) then (ends_common.l1 k3 l0 l1 (x5_2.set ((ji25) : Int).toNat x9_3) x6_1 (mx (wrap64 (x9_3 - 1)) 0) (l0.length : Int) (wrap64 (x34_2 + 1))) else (none)) else (none)) = some r := by first | (rw [hji25] at H; exact H) | (simp only [hji25] at H ⊢; exact H)
                                            by_cases c46 : 0 ≤ (ji25)
                                            · rw [if_pos c46] at H
                                              have c46b0 : decide (0 ≤ (ji25)) = true := decide_eq_true c46
                                              clear c46
                                              by_cases c47 : (ji25) < (x5_2.length : Int)
                                              · rw [if_pos c47] at H
                                                have c47b0 : decide ((ji25) < (x5_2.length : Int)) = true := decide_eq_true c47
                                                clear c47
                                                obtain ⟨y162, hy162⟩ : ∃ y_ : List Int, y_ = (x5_2.set ((ji25) : Int).toNat x9_3) := ⟨_, rfl⟩
                                                replace H : (ends_common.l1 k3 l0 l1 y162 x6_1 (mx (wrap64 (x9_3 - 1)) 0) (l0.length : Int) (wrap64 (x34_2 + 1))) = some r := by first | (rw [hy162]; with_reducible exact H) | (have H2_ := (Option.bind_some _ _).symm.trans H; rw [hy162]; with_reducible exact H2_) | (have H2_ := (Option.bind_some _ _).symm.trans H; with_reducible exact H2_) | with_reducible exact H | (rw [hy162]; exact H) | exact H
                                                have Ny162 := Aside0.mk hy162
                                                clear hy162
                                                obtain ⟨ji49, hji49⟩ : ∃ j_ : Int, (mx (wrap64 (x9_3 - 1)) 0) = j_ := ⟨_, rfl⟩
                                                replace H : (ends_common.l1 k3 l0 l1 y162 x6_1 ji49 (l0.length : Int) (wrap64 (x34_2 + 1))) = some r := by first | (rw [hji49] at H; exact H) | (simp only [hji49] at H ⊢; exact H)
                                                have hji49_ : (if (wrap64 (x9_3 - 1)) < 0 then 0 else (wrap64 (x9_3 - 1))) = ji49 := hji49
                                                have H' := Aside0.mk H
                                                clear H
                                                have p161 : 0 ≤ (x34_2 : Int) := of_decide_eq_true (by first | (with_reducible assumption) | assumption)
                                                have q161 : x34_2 < (x6_1.length : Int) := of_decide_eq_true (by first | (with_reducible assumption) | assumption)
                                                obtain ⟨ad161, e161, hx161_0⟩ := Kd.at_int (Kd.R_reads' HO_6.out).2.2 x34_2 p161 q161
                                                obtain rfl : ad154 = ad161 := (by injection e161)
                                                replace p161 := eq_true p161
                                                replace q161 := eq_true q161
                                                have p48 : 0 ≤ ((ji25) : Int) := of_decide_eq_true (by first | (with_reducible assumption) | assumption)
                                                have q48 : ((ji25) : Int) < ((x5_2.length : Int) : Int) := of_decide_eq_true (by first | (with_reducible assumption) | assumption)
                                                obtain ⟨go48, co48, eo48, gb48, gl48, cl48, HG48⟩ := Kd.R_form HO_5.out (by omega)
                                                (first | cases eo48 | (injection eo48 with ea_ en_ ec_; (first | subst ea_ | (injection ea_ with ea_; subst ea_)); subst ec_; clear en_))
                                                have GB48 := Aside0.mk gb48
                                                have GG48 := Aside0.mk HG48
                                                clear gb48 gl48 HG48
                                                obtain ⟨hx48_0, hf48_0⟩ := Kd.R_celln 0 HO_5.out ((ji25) : Int) p48 q48
                                                replace p48 := eq_true p48
                                                replace q48 := eq_true q48
                                                have HP50 := Kd.R_putg HO_5.out ((ji25) : Int) x9_3
                                                go_wp2_with (first | ((with_reducible refine gate_store (t := 3) (p := 88) rfl ?_); (try (rw [drewN_self wr]; generalize hq_ : World.drewN wr _ = wr; (try (have z_ := (congrArg (fun W_ => World.frozen? W_ _) hq_).symm.trans hf48_0; clear hf48_0; have hf48_0 := z_; clear z_)); (try (have z_ := (congrArg (fun W_ => World.cell? W_ _) hq_).symm.trans hx161_0; clear hx161_0; have hx161_0 := z_; clear z_)); (try (have z_ := (congrArg (fun W_ => World.cell? W_ _) hq_).symm.trans hx48_0; clear hx48_0; have hx48_0 := z_; clear z_)); have n0_ := Aside0.mk (Kd.R_at hq_ HO_5.out); have n1_ := Aside0.mk (Kd.R_at hq_ HO_6.out); have n2_ := Aside0.mk (below_at hq_ HB.out); clear hq_ HO_5 HO_6 HB; have HO_5 := n0_; have HO_6 := n1_; have HB := n2_; clear n0_ n1_ n2_; (try (have HP50 := Kd.R_putg HO_5.out ((ji25) : Int) x9_3)))); refine store_event (t := 3) (p := 88) (v := ?vo_w51) (w1 := (wr.setCell ⟨go48, ((ji25) : Int).toNat, none⟩ (.int .i64 x9_3))) ?hg ?ho ?hn ?hr ?_; (case ho => rfl); (case hg => rfl); (case hn => rfl); (case hr => first | (go_simp; done) | (go_simp; rfl)); intro w51 hw; have hg : wr.grownBy w51 (some go48) := (by rw [hw]; exact HP50.2); have hp_ : Kd.R (Kd.int .i64) 3 w51 w.heap.size (fun k_ => some k_ ≠ (.slice (some ad154) x6_1.length co28 : Value).ownBlock) (.slice (some ⟨go48, 0, none⟩) x5_2.length co48) y162 := (by rw [hw, Ny162.out]; exact HP50.1); clear HP50; have n0_ := Aside0.mk (hp_); have n1_ := Aside0.mk (Kd.R_after (v := (.slice (some ⟨go48, 0, none⟩) x5_2.length co48)) (v1 := (.slice (some ⟨go48, 0, none⟩) x5_2.length co48)) (ok := (fun _ => True)) (by (with_reducible repeat (first | apply Kd.R_alloc | apply Kd.R_drewN | apply Kd.R_drew)); exact Kd.R_mono HO_6.out (by first | exact fun _ hk => ⟨trivial, hk⟩ | (intro _ hk; (repeat' apply And.intro) <;> first | exact hk | exact hk.1 | exact hk.2 | exact hk.1.1 | exact hk.1.2 | exact hk.2.1 | exact hk.2.2 | exact hk.1.1.1 | exact hk.1.1.2 | exact hk.1.2.1 | exact hk.1.2.2 | exact hk.2.1.1 | exact hk.2.1.2 | exact hk.2.2.1 | exact hk.2.2.2))) hg (.inl rfl)); have n2_ := Aside0.mk ((by rw [hw]; exact below_set (HB.out) GB48.out : Below w.heap.size w w51)); clear HO_5; clear HO_6; clear HB; have HO_5 := n0_; have HO_6 := n1_; have HB := n2_; clear n0_ n1_ n2_; clear hg hw hp_))
                                                repeat (go_quiet (first | ((with_reducible refine gate_store (t := 3) (p := 88) rfl ?_); (try (rw [drewN_self wr]; generalize hq_ : World.drewN wr _ = wr; (try (have z_ := (congrArg (fun W_ => World.frozen? W_ _) hq_).symm.trans hf48_0; clear hf48_0; have hf48_0 := z_; clear z_)); (try (have z_ := (congrArg (fun W_ => World.cell? W_ _) hq_).symm.trans hx161_0; clear hx161_0; have hx161_0 := z_; clear z_)); (try (have z_ := (congrArg (fun W_ => World.cell? W_ _) hq_).symm.trans hx48_0; clear hx48_0; have hx48_0 := z_; clear z_)); have n0_ := Aside0.mk (Kd.R_at hq_ HO_5.out); have n1_ := Aside0.mk (Kd.R_at hq_ HO_6.out); have n2_ := Aside0.mk (below_at hq_ HB.out); clear hq_ HO_5 HO_6 HB; have HO_5 := n0_; have HO_6 := n1_; have HB := n2_; clear n0_ n1_ n2_; (try (have HP50 := Kd.R_putg HO_5.out ((ji25) : Int) x9_3)))); refine store_event (t := 3) (p := 88) (v := ?vo_w51) (w1 := (wr.setCell ⟨go48, ((ji25) : Int).toNat, none⟩ (.int .i64 x9_3))) ?hg ?ho ?hn ?hr ?_; (case ho => rfl); (case hg => rfl); (case hn => rfl); (case hr => first | (go_simp; done) | (go_simp; rfl)); intro w51 hw; have hg : wr.grownBy w51 (some go48) := (by rw [hw]; exact HP50.2); have hp_ : Kd.R (Kd.int .i64) 3 w51 w.heap.size (fun k_ => some k_ ≠ (.slice (some ad154) x6_1.length co28 : Value).ownBlock) (.slice (some ⟨go48, 0, none⟩) x5_2.length co48) y162 := (by rw [hw, Ny162.out]; exact HP50.1); clear HP50; have n0_ := Aside0.mk (hp_); have n1_ := Aside0.mk (Kd.R_after (v := (.slice (some ⟨go48, 0, none⟩) x5_2.length co48)) (v1 := (.slice (some ⟨go48, 0, none⟩) x5_2.length co48)) (ok := (fun _ => True)) (by (with_reducible repeat (first | apply Kd.R_alloc | apply Kd.R_drewN | apply Kd.R_drew)); exact Kd.R_mono HO_6.out (by first | exact fun _ hk => ⟨trivial, hk⟩ | (intro _ hk; (repeat' apply And.intro) <;> first | exact hk | exact hk.1 | exact hk.2 | exact hk.1.1 | exact hk.1.2 | exact hk.2.1 | exact hk.2.2 | exact hk.1.1.1 | exact hk.1.1.2 | exact hk.1.2.1 | exact hk.1.2.2 | exact hk.2.1.1 | exact hk.2.1.2 | exact hk.2.2.1 | exact hk.2.2.2))) hg (.inl rfl)); have n2_ := Aside0.mk ((by rw [hw]; exact below_set (HB.out) GB48.out : Below w.heap.size w w51)); clear HO_5; clear HO_6; clear HB; have HO_5 := n0_; have HO_6 := n1_; have HB := n2_; clear n0_ n1_ n2_; clear hg hw hp_)); try go_wp2_with (first | ((with_reducible refine gate_store (t := 3) (p := 88) rfl ?_); (try (rw [drewN_self wr]; generalize hq_ : World.drewN wr _ = wr; (try (have z_ := (congrArg (fun W_ => World.frozen? W_ _) hq_).symm.trans hf48_0; clear hf48_0; have hf48_0 := z_; clear z_)); (try (have z_ := (congrArg (fun W_ => World.cell? W_ _) hq_).symm.trans hx161_0; clear hx161_0; have hx161_0 := z_; clear z_)); (try (have z_ := (congrArg (fun W_ => World.cell? W_ _) hq_).symm.trans hx48_0; clear hx48_0; have hx48_0 := z_; clear z_)); have n0_ := Aside0.mk (Kd.R_at hq_ HO_5.out); have n1_ := Aside0.mk (Kd.R_at hq_ HO_6.out); have n2_ := Aside0.mk (below_at hq_ HB.out); clear hq_ HO_5 HO_6 HB; have HO_5 := n0_; have HO_6 := n1_; have HB := n2_; clear n0_ n1_ n2_; (try (have HP50 := Kd.R_putg HO_5.out ((ji25) : Int) x9_3)))); refine store_event (t := 3) (p := 88) (v := ?vo_w51) (w1 := (wr.setCell ⟨go48, ((ji25) : Int).toNat, none⟩ (.int .i64 x9_3))) ?hg ?ho ?hn ?hr ?_; (case ho => rfl); (case hg => rfl); (case hn => rfl); (case hr => first | (go_simp; done) | (go_simp; rfl)); intro w51 hw; have hg : wr.grownBy w51 (some go48) := (by rw [hw]; exact HP50.2); have hp_ : Kd.R (Kd.int .i64) 3 w51 w.heap.size (fun k_ => some k_ ≠ (.slice (some ad154) x6_1.length co28 : Value).ownBlock) (.slice (some ⟨go48, 0, none⟩) x5_2.length co48) y162 := (by rw [hw, Ny162.out]; exact HP50.1); clear HP50; have n0_ := Aside0.mk (hp_); have n1_ := Aside0.mk (Kd.R_after (v := (.slice (some ⟨go48, 0, none⟩) x5_2.length co48)) (v1 := (.slice (some ⟨go48, 0, none⟩) x5_2.length co48)) (ok := (fun _ => True)) (by (with_reducible repeat (first | apply Kd.R_alloc | apply Kd.R_drewN | apply Kd.R_drew)); exact Kd.R_mono HO_6.out (by first | exact fun _ hk => ⟨trivial, hk⟩ | (intro _ hk; (repeat' apply And.intro) <;> first | exact hk | exact hk.1 | exact hk.2 | exact hk.1.1 | exact hk.1.2 | exact hk.2.1 | exact hk.2.2 | exact hk.1.1.1 | exact hk.1.1.2 | exact hk.1.2.1 | exact hk.1.2.2 | exact hk.2.1.1 | exact hk.2.1.2 | exact hk.2.2.1 | exact hk.2.2.2))) hg (.inl rfl)); have n2_ := Aside0.mk ((by rw [hw]; exact below_set (HB.out) GB48.out : Below w.heap.size w w51)); clear HO_5; clear HO_6; clear HB; have HO_5 := n0_; have HO_6 := n1_; have HB := n2_; clear n0_ n1_ n2_; clear hg hw hp_)))
                                                first | go_roundg k3 | ((simp only [← hji3, ← hji25, ← hji49]); go_roundg k3)
                                                case measure => have := HK1.out; have := HK2.out; have := HK3.out; omega
                                                case rel => exact ⟨(y162), (ji49), (wrap64 (x34_2 + 1)), (by first | rfl | (simp; done) | (simp only [← hji49] <;> (first | rfl | simp)) | (simp [*]; done)), (by first | rfl | (simp; done) | (simp [*]; done)), (by first | exact H' | ((simp only [hji3, hji25, hji49]); exact H') | (have h_ := H'.out; simp only [← hji3, ← hji25, ← hji49] at h_ ⊢; exact ⟨h_⟩)), ⟨by have := HK1.out; have := HK2.out; have := HK3.out; omega⟩, ⟨by (with_reducible repeat (first | apply Kd.R_alloc | apply Kd.R_drewN | apply Kd.R_drew)); exact HO_5.out⟩, ⟨by (with_reducible repeat (first | apply Kd.R_alloc | apply Kd.R_drewN | apply Kd.R_drew)); exact Kd.R_mono HO_6.out (fun _ hk => hk.2)⟩, ⟨by repeat (first | (with_reducible first | exact HB.out | apply below_alloc | apply pw_below_drewN | apply below_drew1) | exact HB.out)⟩⟩
                                              · rw [if_neg c47] at H
                                                exact absurd H (by simp)
                                            · rw [if_neg c46] at H
                                              exact absurd H (by simp)
                                          · rw [if_neg c45] at H
                                            exact absurd H (by simp)
                                        · rw [if_neg c44] at H
                                          exact absurd H (by simp)
                                    · rw [if_neg c29] at H
                                      have c29b0 : decide ((wrap64 (x34_2 + x9_3)) < (l0.length : Int)) = false := decide_eq_false c29
                                      clear c29
                                      by_cases c52 : 0 ≤ x34_2
                                      · rw [if_pos c52] at H
                                        have c52b0 : decide (0 ≤ x34_2) = true := decide_eq_true c52
                                        clear c52
                                        by_cases c53 : x34_2 < (x6_1.length : Int)
                                        · rw [if_pos c53] at H
                                          have c53b0 : decide (x34_2 < (x6_1.length : Int)) = true := decide_eq_true c53
                                          clear c53
                                          replace H : (if 0 ≤ (ji25) then (if (ji25) < (x5_2.length : Int) then (ends_common.l1 k3 l0 l1 (x5_2.set ((ji25) : Int).toNat x9_3) x6_1 (mx (wrap64 (x9_3 - 1)) 0) (l0.length : Int) (wrap64 (x34_2 + 1))) else (none)) else (none)) = some r := by first | (rw [hji25] at H; exact H) | (simp only [hji25] at H ⊢; exact H)
                                          by_cases c54 : 0 ≤ (ji25)
                                          · rw [if_pos c54] at H
                                            have c54b0 : decide (0 ≤ (ji25)) = true := decide_eq_true c54
                                            clear c54
                                            by_cases c55 : (ji25) < (x5_2.length : Int)
                                            · rw [if_pos c55] at H
                                              have c55b0 : decide ((ji25) < (x5_2.length : Int)) = true := decide_eq_true c55
                                              clear c55
                                              obtain ⟨y164, hy164⟩ : ∃ y_ : List Int, y_ = (x5_2.set ((ji25) : Int).toNat x9_3) := ⟨_, rfl⟩
                                              replace H : (ends_common.l1 k3 l0 l1 y164 x6_1 (mx (wrap64 (x9_3 - 1)) 0) (l0.length : Int) (wrap64 (x34_2 + 1))) = some r := by first | (rw [hy164]; with_reducible exact H) | (have H2_ := (Option.bind_some _ _).symm.trans H; rw [hy164]; with_reducible exact H2_) | (have H2_ := (Option.bind_some _ _).symm.trans H; with_reducible exact H2_) | with_reducible exact H | (rw [hy164]; exact H) | exact H
                                              have Ny164 := Aside0.mk hy164
                                              clear hy164
                                              obtain ⟨ji57, hji57⟩ : ∃ j_ : Int, (mx (wrap64 (x9_3 - 1)) 0) = j_ := ⟨_, rfl⟩
                                              replace H : (ends_common.l1 k3 l0 l1 y164 x6_1 ji57 (l0.length : Int) (wrap64 (x34_2 + 1))) = some r := by first | (rw [hji57] at H; exact H) | (simp only [hji57] at H ⊢; exact H)
                                              have hji57_ : (if (wrap64 (x9_3 - 1)) < 0 then 0 else (wrap64 (x9_3 - 1))) = ji57 := hji57
                                              have H' := Aside0.mk H
                                              clear H
                                              have p163 : 0 ≤ (x34_2 : Int) := of_decide_eq_true (by first | (with_reducible assumption) | assumption)
                                              have q163 : x34_2 < (x6_1.length : Int) := of_decide_eq_true (by first | (with_reducible assumption) | assumption)
                                              obtain ⟨ad163, e163, hx163_0⟩ := Kd.at_int (Kd.R_reads' HO_6.out).2.2 x34_2 p163 q163
                                              obtain rfl : ad154 = ad163 := (by injection e163)
                                              replace p163 := eq_true p163
                                              replace q163 := eq_true q163
                                              have p56 : 0 ≤ ((ji25) : Int) := of_decide_eq_true (by first | (with_reducible assumption) | assumption)
                                              have q56 : ((ji25) : Int) < ((x5_2.length : Int) : Int) := of_decide_eq_true (by first | (with_reducible assumption) | assumption)
                                              obtain ⟨go56, co56, eo56, gb56, gl56, cl56, HG56⟩ := Kd.R_form HO_5.out (by omega)
                                              (first | cases eo56 | (injection eo56 with ea_ en_ ec_; (first | subst ea_ | (injection ea_ with ea_; subst ea_)); subst ec_; clear en_))
                                              have GB56 := Aside0.mk gb56
                                              have GG56 := Aside0.mk HG56
                                              clear gb56 gl56 HG56
                                              obtain ⟨hx56_0, hf56_0⟩ := Kd.R_celln 0 HO_5.out ((ji25) : Int) p56 q56
                                              replace p56 := eq_true p56
                                              replace q56 := eq_true q56
                                              have HP58 := Kd.R_putg HO_5.out ((ji25) : Int) x9_3
                                              go_wp2_with (first | ((with_reducible refine gate_store (t := 3) (p := 88) rfl ?_); (try (rw [drewN_self wr]; generalize hq_ : World.drewN wr _ = wr; (try (have z_ := (congrArg (fun W_ => World.frozen? W_ _) hq_).symm.trans hf56_0; clear hf56_0; have hf56_0 := z_; clear z_)); (try (have z_ := (congrArg (fun W_ => World.cell? W_ _) hq_).symm.trans hx163_0; clear hx163_0; have hx163_0 := z_; clear z_)); (try (have z_ := (congrArg (fun W_ => World.cell? W_ _) hq_).symm.trans hx56_0; clear hx56_0; have hx56_0 := z_; clear z_)); have n0_ := Aside0.mk (Kd.R_at hq_ HO_5.out); have n1_ := Aside0.mk (Kd.R_at hq_ HO_6.out); have n2_ := Aside0.mk (below_at hq_ HB.out); clear hq_ HO_5 HO_6 HB; have HO_5 := n0_; have HO_6 := n1_; have HB := n2_; clear n0_ n1_ n2_; (try (have HP58 := Kd.R_putg HO_5.out ((ji25) : Int) x9_3)))); refine store_event (t := 3) (p := 88) (v := ?vo_w59) (w1 := (wr.setCell ⟨go56, ((ji25) : Int).toNat, none⟩ (.int .i64 x9_3))) ?hg ?ho ?hn ?hr ?_; (case ho => rfl); (case hg => rfl); (case hn => rfl); (case hr => first | (go_simp; done) | (go_simp; rfl)); intro w59 hw; have hg : wr.grownBy w59 (some go56) := (by rw [hw]; exact HP58.2); have hp_ : Kd.R (Kd.int .i64) 3 w59 w.heap.size (fun k_ => some k_ ≠ (.slice (some ad154) x6_1.length co28 : Value).ownBlock) (.slice (some ⟨go56, 0, none⟩) x5_2.length co56) y164 := (by rw [hw, Ny164.out]; exact HP58.1); clear HP58; have n0_ := Aside0.mk (hp_); have n1_ := Aside0.mk (Kd.R_after (v := (.slice (some ⟨go56, 0, none⟩) x5_2.length co56)) (v1 := (.slice (some ⟨go56, 0, none⟩) x5_2.length co56)) (ok := (fun _ => True)) (by (with_reducible repeat (first | apply Kd.R_alloc | apply Kd.R_drewN | apply Kd.R_drew)); exact Kd.R_mono HO_6.out (by first | exact fun _ hk => ⟨trivial, hk⟩ | (intro _ hk; (repeat' apply And.intro) <;> first | exact hk | exact hk.1 | exact hk.2 | exact hk.1.1 | exact hk.1.2 | exact hk.2.1 | exact hk.2.2 | exact hk.1.1.1 | exact hk.1.1.2 | exact hk.1.2.1 | exact hk.1.2.2 | exact hk.2.1.1 | exact hk.2.1.2 | exact hk.2.2.1 | exact hk.2.2.2))) hg (.inl rfl)); have n2_ := Aside0.mk ((by rw [hw]; exact below_set (HB.out) GB56.out : Below w.heap.size w w59)); clear HO_5; clear HO_6; clear HB; have HO_5 := n0_; have HO_6 := n1_; have HB := n2_; clear n0_ n1_ n2_; clear hg hw hp_))
                                              repeat (go_quiet (first | ((with_reducible refine gate_store (t := 3) (p := 88) rfl ?_); (try (rw [drewN_self wr]; generalize hq_ : World.drewN wr _ = wr; (try (have z_ := (congrArg (fun W_ => World.frozen? W_ _) hq_).symm.trans hf56_0; clear hf56_0; have hf56_0 := z_; clear z_)); (try (have z_ := (congrArg (fun W_ => World.cell? W_ _) hq_).symm.trans hx163_0; clear hx163_0; have hx163_0 := z_; clear z_)); (try (have z_ := (congrArg (fun W_ => World.cell? W_ _) hq_).symm.trans hx56_0; clear hx56_0; have hx56_0 := z_; clear z_)); have n0_ := Aside0.mk (Kd.R_at hq_ HO_5.out); have n1_ := Aside0.mk (Kd.R_at hq_ HO_6.out); have n2_ := Aside0.mk (below_at hq_ HB.out); clear hq_ HO_5 HO_6 HB; have HO_5 := n0_; have HO_6 := n1_; have HB := n2_; clear n0_ n1_ n2_; (try (have HP58 := Kd.R_putg HO_5.out ((ji25) : Int) x9_3)))); refine store_event (t := 3) (p := 88) (v := ?vo_w59) (w1 := (wr.setCell ⟨go56, ((ji25) : Int).toNat, none⟩ (.int .i64 x9_3))) ?hg ?ho ?hn ?hr ?_; (case ho => rfl); (case hg => rfl); (case hn => rfl); (case hr => first | (go_simp; done) | (go_simp; rfl)); intro w59 hw; have hg : wr.grownBy w59 (some go56) := (by rw [hw]; exact HP58.2); have hp_ : Kd.R (Kd.int .i64) 3 w59 w.heap.size (fun k_ => some k_ ≠ (.slice (some ad154) x6_1.length co28 : Value).ownBlock) (.slice (some ⟨go56, 0, none⟩) x5_2.length co56) y164 := (by rw [hw, Ny164.out]; exact HP58.1); clear HP58; have n0_ := Aside0.mk (hp_); have n1_ := Aside0.mk (Kd.R_after (v := (.slice (some ⟨go56, 0, none⟩) x5_2.length co56)) (v1 := (.slice (some ⟨go56, 0, none⟩) x5_2.length co56)) (ok := (fun _ => True)) (by (with_reducible repeat (first | apply Kd.R_alloc | apply Kd.R_drewN | apply Kd.R_drew)); exact Kd.R_mono HO_6.out (by first | exact fun _ hk => ⟨trivial, hk⟩ | (intro _ hk; (repeat' apply And.intro) <;> first | exact hk | exact hk.1 | exact hk.2 | exact hk.1.1 | exact hk.1.2 | exact hk.2.1 | exact hk.2.2 | exact hk.1.1.1 | exact hk.1.1.2 | exact hk.1.2.1 | exact hk.1.2.2 | exact hk.2.1.1 | exact hk.2.1.2 | exact hk.2.2.1 | exact hk.2.2.2))) hg (.inl rfl)); have n2_ := Aside0.mk ((by rw [hw]; exact below_set (HB.out) GB56.out : Below w.heap.size w w59)); clear HO_5; clear HO_6; clear HB; have HO_5 := n0_; have HO_6 := n1_; have HB := n2_; clear n0_ n1_ n2_; clear hg hw hp_)); try go_wp2_with (first | ((with_reducible refine gate_store (t := 3) (p := 88) rfl ?_); (try (rw [drewN_self wr]; generalize hq_ : World.drewN wr _ = wr; (try (have z_ := (congrArg (fun W_ => World.frozen? W_ _) hq_).symm.trans hf56_0; clear hf56_0; have hf56_0 := z_; clear z_)); (try (have z_ := (congrArg (fun W_ => World.cell? W_ _) hq_).symm.trans hx163_0; clear hx163_0; have hx163_0 := z_; clear z_)); (try (have z_ := (congrArg (fun W_ => World.cell? W_ _) hq_).symm.trans hx56_0; clear hx56_0; have hx56_0 := z_; clear z_)); have n0_ := Aside0.mk (Kd.R_at hq_ HO_5.out); have n1_ := Aside0.mk (Kd.R_at hq_ HO_6.out); have n2_ := Aside0.mk (below_at hq_ HB.out); clear hq_ HO_5 HO_6 HB; have HO_5 := n0_; have HO_6 := n1_; have HB := n2_; clear n0_ n1_ n2_; (try (have HP58 := Kd.R_putg HO_5.out ((ji25) : Int) x9_3)))); refine store_event (t := 3) (p := 88) (v := ?vo_w59) (w1 := (wr.setCell ⟨go56, ((ji25) : Int).toNat, none⟩ (.int .i64 x9_3))) ?hg ?ho ?hn ?hr ?_; (case ho => rfl); (case hg => rfl); (case hn => rfl); (case hr => first | (go_simp; done) | (go_simp; rfl)); intro w59 hw; have hg : wr.grownBy w59 (some go56) := (by rw [hw]; exact HP58.2); have hp_ : Kd.R (Kd.int .i64) 3 w59 w.heap.size (fun k_ => some k_ ≠ (.slice (some ad154) x6_1.length co28 : Value).ownBlock) (.slice (some ⟨go56, 0, none⟩) x5_2.length co56) y164 := (by rw [hw, Ny164.out]; exact HP58.1); clear HP58; have n0_ := Aside0.mk (hp_); have n1_ := Aside0.mk (Kd.R_after (v := (.slice (some ⟨go56, 0, none⟩) x5_2.length co56)) (v1 := (.slice (some ⟨go56, 0, none⟩) x5_2.length co56)) (ok := (fun _ => True)) (by (with_reducible repeat (first | apply Kd.R_alloc | apply Kd.R_drewN | apply Kd.R_drew)); exact Kd.R_mono HO_6.out (by first | exact fun _ hk => ⟨trivial, hk⟩ | (intro _ hk; (repeat' apply And.intro) <;> first | exact hk | exact hk.1 | exact hk.2 | exact hk.1.1 | exact hk.1.2 | exact hk.2.1 | exact hk.2.2 | exact hk.1.1.1 | exact hk.1.1.2 | exact hk.1.2.1 | exact hk.1.2.2 | exact hk.2.1.1 | exact hk.2.1.2 | exact hk.2.2.1 | exact hk.2.2.2))) hg (.inl rfl)); have n2_ := Aside0.mk ((by rw [hw]; exact below_set (HB.out) GB56.out : Below w.heap.size w w59)); clear HO_5; clear HO_6; clear HB; have HO_5 := n0_; have HO_6 := n1_; have HB := n2_; clear n0_ n1_ n2_; clear hg hw hp_)))
                                              first | go_roundg k3 | ((simp only [← hji3, ← hji25, ← hji57]); go_roundg k3)
                                              case measure => have := HK1.out; have := HK2.out; have := HK3.out; omega
                                              case rel => exact ⟨(y164), (ji57), (wrap64 (x34_2 + 1)), (by first | rfl | (simp; done) | (simp only [← hji57] <;> (first | rfl | simp)) | (simp [*]; done)), (by first | rfl | (simp; done) | (simp [*]; done)), (by first | exact H' | ((simp only [hji3, hji25, hji57]); exact H') | (have h_ := H'.out; simp only [← hji3, ← hji25, ← hji57] at h_ ⊢; exact ⟨h_⟩)), ⟨by have := HK1.out; have := HK2.out; have := HK3.out; omega⟩, ⟨by (with_reducible repeat (first | apply Kd.R_alloc | apply Kd.R_drewN | apply Kd.R_drew)); exact HO_5.out⟩, ⟨by (with_reducible repeat (first | apply Kd.R_alloc | apply Kd.R_drewN | apply Kd.R_drew)); exact Kd.R_mono HO_6.out (fun _ hk => hk.2)⟩, ⟨by repeat (first | (with_reducible first | exact HB.out | apply below_alloc | apply pw_below_drewN | apply below_drew1) | exact HB.out)⟩⟩
                                            · rw [if_neg c55] at H
                                              exact absurd H (by simp)
                                          · rw [if_neg c54] at H
                                            exact absurd H (by simp)
                                        · rw [if_neg c53] at H
                                          exact absurd H (by simp)
                                      · rw [if_neg c52] at H
                                        exact absurd H (by simp)
                              · rw [if_neg c27] at H
                                exact absurd H (by simp)
                            · rw [if_neg c26] at H
                              exact absurd H (by simp)
                        · rw [if_neg c22] at H
                          exact absurd H (by simp)
                      · rw [if_neg c21] at H
                        exact absurd H (by simp)
                    · rw [if_neg c20] at H
                      have c20b0 : decide (x34_2 < (l0.length : Int)) = false := decide_eq_false c20
                      clear c20
                      obtain rfl := Option.some.inj H
                      go_wp2
                      repeat (go_quiet (fail); try go_wp2)
                      go_ret
                      exact ⟨_, by first | rfl | (simp [errW_none, errW_some] <;> rfl) | (simp only [← hji3]; first | rfl | (simp [errW_none, errW_some] <;> rfl)) | (simp [*, errW_none, errW_some] <;> rfl), by (with_reducible repeat (first | apply Kd.R_alloc | apply Kd.R_drewN | apply Kd.R_drew)); exact Kd.R_mono HO_5.out (fun _ hk => trivial), by repeat (first | (with_reducible first | exact HB.out | apply below_alloc | apply pw_below_drewN | apply below_drew1) | exact HB.out)⟩
        · rw [if_neg c7] at H
          exact absurd H (by simp)
      · rw [if_neg c6] at H
        exact absurd H (by simp)
    · rw [if_neg c5] at H
      exact absurd H (by simp)
  · rw [if_neg c4] at H
    exact absurd H (by simp)

end Go.Proofs.Ytkalcljgcigdgaa.GE
