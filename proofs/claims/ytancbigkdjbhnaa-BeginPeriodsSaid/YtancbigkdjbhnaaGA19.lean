-- Written by ext.py, a program of this session.
import Derived.Test.YtancbigkdjbhnaaGA0
namespace Go.Proofs.Ytancbigkdjbhnaa.GA
open Go.RowKit Go.Proofs.YtancbigkdjbhnaaW.PrintWords Go.Proofs.YtancbigkdjbhnaaW.PrintLast Go.Proofs.YtancbigkdjbhnaaW.PrintMore
attribute [local go_sem] max2_int min2_int max_two min_two max_three min_three max_four min_four   -- for this text's walks alone
set_option linter.unusedVariables false
set_option linter.unusedSimpArgs false

/-! ### begin_Again: function 37 -/
mutual
def begin_Again.l0 : Nat → List Int → List Int → Int → Int → Int → Int → Option (List Int × Int)
  | 0, _, _, _, _, _, _ => none
  | k + 1, x0, x4, x5, x6, x16, x17 => if x17 < x16 then (if x17 = 0 then (if 0 < (x4.length : Int) then (begin_Again.l0 k x0 (x4.set (0 : Int).toNat (x0.length : Int)) x5 x6 x16 (wrap64 (x17 + 1))) else (none)) else (if x17 < x6 then (if 0 ≤ (wrap64 (x17 - x5)) then (if (wrap64 (x17 - x5)) < (x4.length : Int) then (begin_Again.j1 k x0 x4 x5 x6 x17 (mn (rd x4 (wrap64 (x17 - x5))) (wrap64 (x6 - x17))) x16 x17) else (none)) else (none)) else (begin_Again.j1 k x0 x4 x5 x6 x17 0 x16 x17))) else (some (x4, 0))
def begin_Again.j1 : Nat → List Int → List Int → Int → Int → Int → Int → Int → Int → Option (List Int × Int)
  | 0, _, _, _, _, _, _, _, _ => none
  | k + 1, x0, x4, x5, x6, x7, x8, x16, x17 => begin_Again.l1 k x0 x4 x5 x6 x7 x8 x16 x17
def begin_Again.l1 : Nat → List Int → List Int → Int → Int → Int → Int → Int → Int → Option (List Int × Int)
  | 0, _, _, _, _, _, _, _, _ => none
  | k + 1, x0, x4, x5, x6, x7, x8, x16, x17 => if (wrap64 (x7 + x8)) < (x0.length : Int) then (if 0 ≤ x8 then (if x8 < (x0.length : Int) then (if 0 ≤ (wrap64 (x7 + x8)) then (if (rd x0 x8) = (rd x0 (wrap64 (x7 + x8))) then (begin_Again.l1 k x0 x4 x5 x6 x7 (wrap64 (x8 + 1)) x16 x17) else (if (wrap64 (x7 + x8)) > x6 then (if 0 ≤ x7 then (if x7 < (x4.length : Int) then (begin_Again.l0 k x0 (x4.set (x7 : Int).toNat x8) x7 (wrap64 (x7 + x8)) x16 (wrap64 (x17 + 1))) else (none)) else (none)) else (if 0 ≤ x7 then (if x7 < (x4.length : Int) then (begin_Again.l0 k x0 (x4.set (x7 : Int).toNat x8) x5 x6 x16 (wrap64 (x17 + 1))) else (none)) else (none)))) else (none)) else (none)) else (none)) else (if (wrap64 (x7 + x8)) > x6 then (if 0 ≤ x7 then (if x7 < (x4.length : Int) then (begin_Again.l0 k x0 (x4.set (x7 : Int).toNat x8) x7 (wrap64 (x7 + x8)) x16 (wrap64 (x17 + 1))) else (none)) else (none)) else (if 0 ≤ x7 then (if x7 < (x4.length : Int) then (begin_Again.l0 k x0 (x4.set (x7 : Int).toNat x8) x5 x6 x16 (wrap64 (x17 + 1))) else (none)) else (none)))
end
def begin_Again.f (k : Nat) (l0 : List Int) : Option (List Int × Int) := if (l0.length : Int) > 60 then (some (([] : List Int), 1)) else (if 0 ≤ (l0.length : Int) then (if ((l0.length : Int) : Int).toNat ≤ 35184372088832 then ((some (List.replicate ((l0.length : Int) : Int).toNat 0 : List Int)).bind fun y339 => (begin_Again.l0 k l0 y339 0 0 (y339.length : Int) 0)) else (none)) else (none))
theorem begin_Again.mono_l : ∀ k, (∀ y0 y1 y2 y3 y4 y5, LeO (begin_Again.l0 k y0 y1 y2 y3 y4 y5) (begin_Again.l0 (k + 1) y0 y1 y2 y3 y4 y5)) ∧ (∀ y0 y1 y2 y3 y4 y5 y6 y7, LeO (begin_Again.j1 k y0 y1 y2 y3 y4 y5 y6 y7) (begin_Again.j1 (k + 1) y0 y1 y2 y3 y4 y5 y6 y7)) ∧ (∀ y0 y1 y2 y3 y4 y5 y6 y7, LeO (begin_Again.l1 k y0 y1 y2 y3 y4 y5 y6 y7) (begin_Again.l1 (k + 1) y0 y1 y2 y3 y4 y5 y6 y7))
  | 0 => ⟨fun _ _ _ _ _ _ r h => by simp [begin_Again.l0] at h, fun _ _ _ _ _ _ _ _ r h => by simp [begin_Again.j1] at h, fun _ _ _ _ _ _ _ _ r h => by simp [begin_Again.l1] at h⟩
  | k + 1 => by
    obtain ⟨ih0, ih1, ih2⟩ := begin_Again.mono_l k
    refine ⟨?_, ?_, ?_⟩
    · intro y0 y1 y2 y3 y4 y5
      unfold begin_Again.l0
      repeat' first
      | (with_reducible exact ih0 _ _ _ _ _ _)
      | (with_reducible exact ih1 _ _ _ _ _ _ _ _)
      | (with_reducible exact ih2 _ _ _ _ _ _ _ _)
      | (with_reducible exact LeO.refl _)
      | (with_reducible exact LeO.none _)
      | (with_reducible refine LeO.ite ?_ ?_)
      | (with_reducible refine LeO.bind ?_ (fun _ => ?_))
      | exact ih0 _ _ _ _ _ _
      | exact ih1 _ _ _ _ _ _ _ _
      | exact ih2 _ _ _ _ _ _ _ _
      | exact LeO.none _
      | refine LeO.ite ?_ ?_
      | refine LeO.bind ?_ (fun _ => ?_)
    · intro y0 y1 y2 y3 y4 y5 y6 y7
      unfold begin_Again.j1
      repeat' first
      | (with_reducible exact ih0 _ _ _ _ _ _)
      | (with_reducible exact ih1 _ _ _ _ _ _ _ _)
      | (with_reducible exact ih2 _ _ _ _ _ _ _ _)
      | (with_reducible exact LeO.refl _)
      | (with_reducible exact LeO.none _)
      | (with_reducible refine LeO.ite ?_ ?_)
      | (with_reducible refine LeO.bind ?_ (fun _ => ?_))
      | exact ih0 _ _ _ _ _ _
      | exact ih1 _ _ _ _ _ _ _ _
      | exact ih2 _ _ _ _ _ _ _ _
      | exact LeO.none _
      | refine LeO.ite ?_ ?_
      | refine LeO.bind ?_ (fun _ => ?_)
    · intro y0 y1 y2 y3 y4 y5 y6 y7
      unfold begin_Again.l1
      repeat' first
      | (with_reducible exact ih0 _ _ _ _ _ _)
      | (with_reducible exact ih1 _ _ _ _ _ _ _ _)
      | (with_reducible exact ih2 _ _ _ _ _ _ _ _)
      | (with_reducible exact LeO.refl _)
      | (with_reducible exact LeO.none _)
      | (with_reducible refine LeO.ite ?_ ?_)
      | (with_reducible refine LeO.bind ?_ (fun _ => ?_))
      | exact ih0 _ _ _ _ _ _
      | exact ih1 _ _ _ _ _ _ _ _
      | exact ih2 _ _ _ _ _ _ _ _
      | exact LeO.none _
      | refine LeO.ite ?_ ?_
      | refine LeO.bind ?_ (fun _ => ?_)
theorem begin_Again.mono : ∀ a0 k, LeO (begin_Again.f k a0) (begin_Again.f (k + 1) a0) := by
  intro a0 k
  obtain ⟨ih0, ih1, ih2⟩ := begin_Again.mono_l k
  unfold begin_Again.f
  repeat' first
      | (with_reducible exact ih0 _ _ _ _ _ _)
      | (with_reducible exact ih1 _ _ _ _ _ _ _ _)
      | (with_reducible exact ih2 _ _ _ _ _ _ _ _)
      | (with_reducible exact LeO.refl _)
      | (with_reducible exact LeO.none _)
      | (with_reducible refine LeO.ite ?_ ?_)
      | (with_reducible refine LeO.bind ?_ (fun _ => ?_))
      | exact ih0 _ _ _ _ _ _
      | exact ih1 _ _ _ _ _ _ _ _
      | exact ih2 _ _ _ _ _ _ _ _
      | exact LeO.none _
      | refine LeO.ite ?_ ?_
      | refine LeO.bind ?_ (fun _ => ?_)
set_option maxHeartbeats 8000000 in
set_option maxRecDepth 100000 in
theorem begin_Again.calls (k : Nat) (A0 : Option Addr) (c0 : Nat) (l0 : List Int) (r1 : List Int) (r2 : Int) (w : World) (hr0 : Kd.C (Kd.int .u8) w A0 l0.length l0) (hc0 : l0.length ≤ c0) (h : begin_Again.f k l0 = some (r1, r2)) :
    Calls Try.prog 37 #[.slice A0 l0.length c0] w fun e w' => ∃ v0_ : Value, e = .returned (.tuple #[v0_, .int .i64 r2]) ∧ Kd.R (Kd.int .i64) 3 w' w.heap.size (fun _ => True) v0_ r1 ∧ Below w.heap.size w w' := by
  have HR0 := Aside0.mk hr0
  have HC0 := Aside0.mk hc0
  clear hr0 hc0
  have HB := Aside0.mk (Below.refl w.heap.size w)
  have H : (if (l0.length : Int) > 60 then (some (([] : List Int), 1)) else (if 0 ≤ (l0.length : Int) then (if ((l0.length : Int) : Int).toNat ≤ 35184372088832 then ((some (List.replicate ((l0.length : Int) : Int).toNat 0 : List Int)).bind fun y339 => (begin_Again.l0 k l0 y339 0 0 (y339.length : Int) 0)) else (none)) else (none))) = some (r1, r2) := h
  clear h
  by_cases c2 : (l0.length : Int) > 60
  · rw [if_pos c2] at H
    have c2b0 : decide (60 < (l0.length : Int)) = true := decide_eq_true c2
    have c2b1 : decide (60 < l0.length) = true := decide_eq_true (by omega)
    clear c2
    simp only [Option.some.injEq, Prod.mk.injEq] at H
    obtain ⟨rfl, rfl⟩ := H
    go_enter Try.func37, Try.ntmps37
    go_wp2
    repeat (go_quiet (fail); try go_wp2)
    go_ret2
    exact ⟨_, by first | rfl | (simp [errW_none, errW_some] <;> rfl) | (simp [*, errW_none, errW_some] <;> rfl), by first | exact Kd.R_nil _ _ _ _ _ | exact Kd.N_nil _ _ _ _ _ | exact Kd.V_nil _ _ _ _ _ | exact Kd.Q_nil _ _ _ _ _ | exact Kd.S_nil _ _ _ _ _, by repeat (first | (with_reducible first | exact HB.out | apply below_alloc | apply pw_below_drewN | apply below_drew1) | exact HB.out)⟩
  · rw [if_neg c2] at H
    have c2b0 : decide (60 < (l0.length : Int)) = false := decide_eq_false c2
    have c2b1 : decide (60 < l0.length) = false := decide_eq_false (by omega)
    clear c2
    by_cases c3 : 0 ≤ (l0.length : Int)
    · rw [if_pos c3] at H
      have c3b0 := eq_true c3
      have c3b1 : decide (0 ≤ (l0.length : Int)) = true := decide_eq_true c3
      clear c3
      by_cases c4 : ((l0.length : Int) : Int).toNat ≤ 35184372088832
      · rw [if_pos c4] at H
        have c4b0 := eq_true c4
        have c4b1 : decide (((l0.length : Int) : Int).toNat ≤ 35184372088832) = true := decide_eq_true c4
        clear c4
        obtain ⟨y339, hy339⟩ : ∃ y_ : List Int, y_ = (List.replicate ((l0.length : Int) : Int).toNat 0) := ⟨_, rfl⟩
        replace H : (begin_Again.l0 k l0 y339 0 0 (y339.length : Int) 0) = some (r1, r2) := by first | (rw [hy339]; with_reducible exact H) | (have H2_ := (Option.bind_some _ _).symm.trans H; rw [hy339]; with_reducible exact H2_) | (have H2_ := (Option.bind_some _ _).symm.trans H; with_reducible exact H2_) | with_reducible exact H | (rw [hy339]; exact H) | exact H
        have Ny339 := Aside0.mk hy339
        clear hy339
        have H' := Aside0.mk H
        clear H
        go_enter Try.func37, Try.ntmps37
        go_wp2_with (first | ((with_reducible refine gate_dst (N := 14) rfl ?_); refine Kd.R_make (Kd.int .i64) _ 3 rfl (N := 14) rfl 50 _ _ rfl (l0.length : Int) rfl rfl Try.underlying50 (.int .i64 0) 8 info3 rfl (by decide) (by omega) 0 (ok := fun _ => True) (okp := fun _ => True) rfl (fun _ hk => hk) trivial (of_decide_eq_true (by first | (with_reducible assumption) | assumption)) (Nat.le_trans (Nat.mul_le_mul_right _ (of_decide_eq_true (by first | (with_reducible assumption) | assumption) : (l0.length : Int).toNat ≤ 35184372088832)) (by omega)) (Below.refl _ _) (Nat.le_refl _) ?_; intro v340 w5 ho6 hb hg_ hnew_; clear hg_ hnew_; (first | rw [← Ny339.out] at ho6 | (simp only [Int.reduceToNat] at ho6; rw [← Ny339.out] at ho6)); have n0_ := Aside0.mk (Kd.R_lower ho6 (below_size (by repeat (first | (with_reducible first | exact HB.out | apply below_alloc | apply pw_below_drewN | apply below_drew1) | exact HB.out)))); have n1_ := Aside0.mk (below_step (by repeat (first | (with_reducible first | exact HB.out | apply below_alloc | apply pw_below_drewN | apply below_drew1) | exact HB.out)) hb); clear HB; have HO341 := n0_; have HB := n1_; clear n0_ n1_; clear hb ho6; obtain ⟨Ao7, co7, eo7⟩ := Kd.R_slice HO341.out; subst eo7))
        repeat (go_quiet (first | ((with_reducible refine gate_dst (N := 14) rfl ?_); refine Kd.R_make (Kd.int .i64) _ 3 rfl (N := 14) rfl 50 _ _ rfl (l0.length : Int) rfl rfl Try.underlying50 (.int .i64 0) 8 info3 rfl (by decide) (by omega) 0 (ok := fun _ => True) (okp := fun _ => True) rfl (fun _ hk => hk) trivial (of_decide_eq_true (by first | (with_reducible assumption) | assumption)) (Nat.le_trans (Nat.mul_le_mul_right _ (of_decide_eq_true (by first | (with_reducible assumption) | assumption) : (l0.length : Int).toNat ≤ 35184372088832)) (by omega)) (Below.refl _ _) (Nat.le_refl _) ?_; intro v340 w5 ho6 hb hg_ hnew_; clear hg_ hnew_; (first | rw [← Ny339.out] at ho6 | (simp only [Int.reduceToNat] at ho6; rw [← Ny339.out] at ho6)); have n0_ := Aside0.mk (Kd.R_lower ho6 (below_size (by repeat (first | (with_reducible first | exact HB.out | apply below_alloc | apply pw_below_drewN | apply below_drew1) | exact HB.out)))); have n1_ := Aside0.mk (below_step (by repeat (first | (with_reducible first | exact HB.out | apply below_alloc | apply pw_below_drewN | apply below_drew1) | exact HB.out)) hb); clear HB; have HO341 := n0_; have HB := n1_; clear n0_ n1_; clear hb ho6; obtain ⟨Ao7, co7, eo7⟩ := Kd.R_slice HO341.out; subst eo7)); try go_wp2_with (first | ((with_reducible refine gate_dst (N := 14) rfl ?_); refine Kd.R_make (Kd.int .i64) _ 3 rfl (N := 14) rfl 50 _ _ rfl (l0.length : Int) rfl rfl Try.underlying50 (.int .i64 0) 8 info3 rfl (by decide) (by omega) 0 (ok := fun _ => True) (okp := fun _ => True) rfl (fun _ hk => hk) trivial (of_decide_eq_true (by first | (with_reducible assumption) | assumption)) (Nat.le_trans (Nat.mul_le_mul_right _ (of_decide_eq_true (by first | (with_reducible assumption) | assumption) : (l0.length : Int).toNat ≤ 35184372088832)) (by omega)) (Below.refl _ _) (Nat.le_refl _) ?_; intro v340 w5 ho6 hb hg_ hnew_; clear hg_ hnew_; (first | rw [← Ny339.out] at ho6 | (simp only [Int.reduceToNat] at ho6; rw [← Ny339.out] at ho6)); have n0_ := Aside0.mk (Kd.R_lower ho6 (below_size (by repeat (first | (with_reducible first | exact HB.out | apply below_alloc | apply pw_below_drewN | apply below_drew1) | exact HB.out)))); have n1_ := Aside0.mk (below_step (by repeat (first | (with_reducible first | exact HB.out | apply below_alloc | apply pw_below_drewN | apply below_drew1) | exact HB.out)) hb); clear HB; have HO341 := n0_; have HB := n1_; clear n0_ n1_; clear hb ho6; obtain ⟨Ao7, co7, eo7⟩ := Kd.R_slice HO341.out; subst eo7)))
        go_loopg [5, 6, 17] k (fun kq v5 v6 v17 w' => ∃ (x4_1 : List Int) (x5_1 : Int) (x6_1 : Int) (x17_1 : Int), v5 = .int .i64 x5_1 ∧ v6 = .int .i64 x6_1 ∧ v17 = .int .i64 x17_1 ∧ Aside0 (begin_Again.l0 kq l0 x4_1 x5_1 x6_1 (y339.length : Int) x17_1 = some (r1, r2)) ∧ Aside0 (kq ≤ k) ∧ Aside0 (Kd.R (Kd.int .i64) 3 w' w.heap.size (fun _ => True) (.slice Ao7 y339.length co7) x4_1) ∧ Aside0 (Below w.heap.size w w'))
        case atStart => exact ⟨(y339), (0), (0), (0), (by first | rfl | (simp; done) | (simp [*]; done)), (by first | rfl | (simp; done) | (simp [*]; done)), (by first | rfl | (simp; done) | (simp [*]; done)), H', ⟨Nat.le_refl _⟩, ⟨by (with_reducible repeat (first | apply Kd.R_alloc | apply Kd.R_drewN | apply Kd.R_drew)); exact HO341.out⟩, ⟨by repeat (first | (with_reducible first | exact HB.out | apply below_alloc | apply pw_below_drewN | apply below_drew1) | exact HB.out)⟩⟩
        case round =>
          clear H'
          try clear c2
          try clear c2b0
          try clear c2b1
          try clear p2
          try clear c3
          try clear c3b0
          try clear c3b1
          try clear c4
          try clear c4b0
          try clear c4b1
          obtain ⟨x4_1, x5_1, x6_1, x17_1, rfl, rfl, rfl, HA, HK1, HO_4, HB⟩ := hrel
          have hl4_1 := (Kd.R_reads' HO_4.out).1
          rw [hl4_1] at HO_4
          (try simp only [hl4_1])
          cases gk with
          | zero => exact absurd HA.out (by simp [begin_Again.l0])
          | succ k1 =>
            have H := HA.out
            clear HA
            simp only [begin_Again.l0] at H
            by_cases c8 : x17_1 < (y339.length : Int)
            · rw [if_pos c8] at H
              have c8b0 : decide (x17_1 < (y339.length : Int)) = true := decide_eq_true c8
              (try (have c8b0h := c8b0; simp only [hl4_1] at c8b0h))
              clear c8
              by_cases c9 : x17_1 = 0
              · rw [if_pos c9] at H
                have c9b0 : (x17_1 == 0) = true := beq_iff_eq.mpr c9
                have c9b1 : (x17_1 != 0) = false := bne_eq_false_iff_eq.mpr c9
                clear c9
                by_cases c10 : 0 < (x4_1.length : Int)
                · rw [if_pos c10] at H
                  have c10b0 : decide (0 < (x4_1.length : Int)) = true := decide_eq_true c10
                  have c10b1 : decide (0 < x4_1.length) = true := decide_eq_true (by omega)
                  (try (have c10b0h := c10b0; simp only [hl4_1] at c10b0h))
                  (try (have c10b1h := c10b1; simp only [hl4_1] at c10b1h))
                  clear c10
                  obtain ⟨y342, hy342⟩ : ∃ y_ : List Int, y_ = (x4_1.set (0 : Int).toNat (l0.length : Int)) := ⟨_, rfl⟩
                  replace H : (begin_Again.l0 k1 l0 y342 x5_1 x6_1 (y339.length : Int) (wrap64 (x17_1 + 1))) = some (r1, r2) := by first | (rw [hy342]; with_reducible exact H) | (have H2_ := (Option.bind_some _ _).symm.trans H; rw [hy342]; with_reducible exact H2_) | (have H2_ := (Option.bind_some _ _).symm.trans H; with_reducible exact H2_) | with_reducible exact H | (rw [hy342]; exact H) | exact H
                  have Ny342 := Aside0.mk hy342
                  clear hy342
                  have H' := Aside0.mk H
                  clear H
                  have p11 : 0 ≤ (0 : Int) := (by omega)
                  have q11 : (0 : Int) < ((x4_1.length : Int) : Int) := of_decide_eq_true (by first | (with_reducible assumption) | assumption)
                  have qi11 : (0 < x4_1.length) = True := eq_true (by omega)
                  obtain ⟨go11, co11, eo11, gb11, gl11, cl11, HG11⟩ := Kd.R_form HO_4.out (by omega)
                  (first | cases eo11 | (injection eo11 with ea_ en_ ec_; (first | subst ea_ | (injection ea_ with ea_; subst ea_)); subst ec_; clear en_))
                  have GB11 := Aside0.mk gb11
                  have GG11 := Aside0.mk HG11
                  clear gb11 gl11 HG11
                  obtain ⟨hx11_0, hf11_0⟩ := Kd.R_celln 0 HO_4.out (0 : Int) p11 q11
                  (try rw [show ((0 : Int)).toNat = 0 from rfl] at hx11_0)
                  (try simp only [Nat.reduceMul, Nat.zero_mul, Nat.zero_add, Nat.reduceAdd] at hx11_0)
                  (try rw [show ((0 : Int)).toNat = 0 from rfl] at hf11_0)
                  (try simp only [Nat.reduceMul, Nat.zero_mul, Nat.zero_add, Nat.reduceAdd] at hf11_0)
                  replace p11 := eq_true p11
                  replace q11 := eq_true q11
                  have HP12 := Kd.R_putg HO_4.out (0 : Int) (l0.length : Int)
                  go_wp2_with (first | ((with_reducible refine gate_store (t := 3) (p := 25) rfl ?_); (try (rw [drewN_self wr]; generalize hq_ : World.drewN wr _ = wr; (try (have z_ := (congrArg (fun W_ => World.frozen? W_ _) hq_).symm.trans hf11_0; clear hf11_0; have hf11_0 := z_; clear z_)); (try (have z_ := (congrArg (fun W_ => World.cell? W_ _) hq_).symm.trans hx11_0; clear hx11_0; have hx11_0 := z_; clear z_)); have n0_ := Aside0.mk (Kd.R_at hq_ HO_4.out); have n1_ := Aside0.mk (below_at hq_ HB.out); clear hq_ HO_4 HB; have HO_4 := n0_; have HB := n1_; clear n0_ n1_; (try (have HP12 := Kd.R_putg HO_4.out (0 : Int) (l0.length : Int))))); refine store_event (t := 3) (p := 25) (v := ?vo_w13) (w1 := (wr.setCell ⟨go11, (0 : Int).toNat, none⟩ (.int .i64 (l0.length : Int)))) ?hg ?ho ?hn ?hr ?_; (case ho => rfl); (case hg => rfl); (case hn => rfl); (case hr => first | (go_simp; done) | (go_simp; rfl)); intro w13 hw; have hg : wr.grownBy w13 (some go11) := (by rw [hw]; exact HP12.2); have hp_ : Kd.R (Kd.int .i64) 3 w13 w.heap.size (fun _ => True) (.slice (some ⟨go11, 0, none⟩) x4_1.length co7) y342 := (by rw [hw, Ny342.out]; exact HP12.1); clear HP12; have n0_ := Aside0.mk (hp_); have n1_ := Aside0.mk ((by rw [hw]; exact below_set (HB.out) GB11.out : Below w.heap.size w w13)); clear HO_4; clear HB; have HO_4 := n0_; have HB := n1_; clear n0_ n1_; clear hg hw hp_))
                  repeat (go_quiet (first | ((with_reducible refine gate_store (t := 3) (p := 25) rfl ?_); (try (rw [drewN_self wr]; generalize hq_ : World.drewN wr _ = wr; (try (have z_ := (congrArg (fun W_ => World.frozen? W_ _) hq_).symm.trans hf11_0; clear hf11_0; have hf11_0 := z_; clear z_)); (try (have z_ := (congrArg (fun W_ => World.cell? W_ _) hq_).symm.trans hx11_0; clear hx11_0; have hx11_0 := z_; clear z_)); have n0_ := Aside0.mk (Kd.R_at hq_ HO_4.out); have n1_ := Aside0.mk (below_at hq_ HB.out); clear hq_ HO_4 HB; have HO_4 := n0_; have HB := n1_; clear n0_ n1_; (try (have HP12 := Kd.R_putg HO_4.out (0 : Int) (l0.length : Int))))); refine store_event (t := 3) (p := 25) (v := ?vo_w13) (w1 := (wr.setCell ⟨go11, (0 : Int).toNat, none⟩ (.int .i64 (l0.length : Int)))) ?hg ?ho ?hn ?hr ?_; (case ho => rfl); (case hg => rfl); (case hn => rfl); (case hr => first | (go_simp; done) | (go_simp; rfl)); intro w13 hw; have hg : wr.grownBy w13 (some go11) := (by rw [hw]; exact HP12.2); have hp_ : Kd.R (Kd.int .i64) 3 w13 w.heap.size (fun _ => True) (.slice (some ⟨go11, 0, none⟩) x4_1.length co7) y342 := (by rw [hw, Ny342.out]; exact HP12.1); clear HP12; have n0_ := Aside0.mk (hp_); have n1_ := Aside0.mk ((by rw [hw]; exact below_set (HB.out) GB11.out : Below w.heap.size w w13)); clear HO_4; clear HB; have HO_4 := n0_; have HB := n1_; clear n0_ n1_; clear hg hw hp_)); try go_wp2_with (first | ((with_reducible refine gate_store (t := 3) (p := 25) rfl ?_); (try (rw [drewN_self wr]; generalize hq_ : World.drewN wr _ = wr; (try (have z_ := (congrArg (fun W_ => World.frozen? W_ _) hq_).symm.trans hf11_0; clear hf11_0; have hf11_0 := z_; clear z_)); (try (have z_ := (congrArg (fun W_ => World.cell? W_ _) hq_).symm.trans hx11_0; clear hx11_0; have hx11_0 := z_; clear z_)); have n0_ := Aside0.mk (Kd.R_at hq_ HO_4.out); have n1_ := Aside0.mk (below_at hq_ HB.out); clear hq_ HO_4 HB; have HO_4 := n0_; have HB := n1_; clear n0_ n1_; (try (have HP12 := Kd.R_putg HO_4.out (0 : Int) (l0.length : Int))))); refine store_event (t := 3) (p := 25) (v := ?vo_w13) (w1 := (wr.setCell ⟨go11, (0 : Int).toNat, none⟩ (.int .i64 (l0.length : Int)))) ?hg ?ho ?hn ?hr ?_; (case ho => rfl); (case hg => rfl); (case hn => rfl); (case hr => first | (go_simp; done) | (go_simp; rfl)); intro w13 hw; have hg : wr.grownBy w13 (some go11) := (by rw [hw]; exact HP12.2); have hp_ : Kd.R (Kd.int .i64) 3 w13 w.heap.size (fun _ => True) (.slice (some ⟨go11, 0, none⟩) x4_1.length co7) y342 := (by rw [hw, Ny342.out]; exact HP12.1); clear HP12; have n0_ := Aside0.mk (hp_); have n1_ := Aside0.mk ((by rw [hw]; exact below_set (HB.out) GB11.out : Below w.heap.size w w13)); clear HO_4; clear HB; have HO_4 := n0_; have HB := n1_; clear n0_ n1_; clear hg hw hp_)))
                  (try simp only [← hl4_1])
                  go_roundg k1
                  case measure => have := HK1.out; omega
                  case rel => exact ⟨(y342), (x5_1), (x6_1), (wrap64 (x17_1 + 1)), (by first | rfl | (simp; done) | (simp [*]; done)), (by first | rfl | (simp; done) | (simp [*]; done)), (by first | rfl | (simp; done) | (simp [*]; done)), H', ⟨by have := HK1.out; omega⟩, ⟨by (try simp only [hl4_1]); (with_reducible repeat (first | apply Kd.R_alloc | apply Kd.R_drewN | apply Kd.R_drew)); exact HO_4.out⟩, ⟨by repeat (first | (with_reducible first | exact HB.out | apply below_alloc | apply pw_below_drewN | apply below_drew1) | exact HB.out)⟩⟩
                · rw [if_neg c10] at H
                  exact absurd H (by simp)
              · rw [if_neg c9] at H
                have c9b0 : (x17_1 == 0) = false := beq_eq_false_iff_ne.mpr c9
                have c9b1 : (x17_1 != 0) = true := bne_iff_ne.mpr c9
                have HC14 := Aside0.mk H
                clear H
                go_upto_if 28 with (fail)
                repeat (go_quiet (fail); go_upto_if 28 with (fail))
                go_cut [8] (fun v8 wc => ∃ (kq : Nat) (x8_13 : Int), v8 = .int .i64 x8_13 ∧ Aside0 (begin_Again.j1 kq l0 x4_1 x5_1 x6_1 x17_1 x8_13 (y339.length : Int) x17_1 = some (r1, r2)) ∧ Aside0 (kq ≤ k1) ∧ Aside0 (Kd.R (Kd.int .i64) 3 wc w.heap.size (fun _ => True) (.slice Ao7 x4_1.length co7) x4_1) ∧ Aside0 (Below w.heap.size w wc))
                case first =>
                  have H := HC14.out
                  clear HC14
                  by_cases c15 : x17_1 < x6_1
                  · rw [if_pos c15] at H
                    have c15b0 : decide (x17_1 < x6_1) = true := decide_eq_true c15
                    clear c15
                    (first | rw [c15b0] | (simp only [i64_w, i32_w]; rw [c15b0]) | skip)
                    obtain ⟨ji16, hji16⟩ : ∃ j_ : Int, (wrap64 (x17_1 - x5_1)) = j_ := ⟨_, rfl⟩
                    replace H : (if 0 ≤ (ji16) then (if (ji16) < (x4_1.length : Int) then (begin_Again.j1 k1 l0 x4_1 x5_1 x6_1 x17_1 (mn (rd x4_1 (ji16)) (wrap64 (x6_1 - x17_1))) (y339.length : Int) x17_1) else (none)) else (none)) = some (r1, r2) := by first | (rw [hji16] at H; exact H) | (simp only [hji16] at H ⊢; exact H)
                    have hji16w : (IntKind.i64.wrap (x17_1 - x5_1)) = ji16 := (i64_w _).trans hji16
                    by_cases c17 : 0 ≤ (ji16)
                    · rw [if_pos c17] at H
                      have c17b0 : decide (0 ≤ (ji16)) = true := decide_eq_true c17
                      clear c17
                      by_cases c18 : (ji16) < (x4_1.length : Int)
                      · rw [if_pos c18] at H
                        have c18b0 : decide ((ji16) < (x4_1.length : Int)) = true := decide_eq_true c18
                        (try (have c18b0h := c18b0; simp only [hl4_1] at c18b0h))
                        clear c18
                        obtain ⟨ji19, hji19⟩ : ∃ j_ : Int, (mn (rd x4_1 (ji16)) (wrap64 (x6_1 - x17_1))) = j_ := ⟨_, rfl⟩
                        replace H : (begin_Again.j1 k1 l0 x4_1 x5_1 x6_1 x17_1 ji19 (y339.length : Int) x17_1) = some (r1, r2) := by first | (rw [hji19] at H; exact H) | (simp only [hji19] at H ⊢; exact H)
                        have hji19_ : (if (wrap64 (x6_1 - x17_1)) < (rd x4_1 (ji16)) then (wrap64 (x6_1 - x17_1)) else (rd x4_1 (ji16))) = ji19 := hji19
                        have H' := Aside0.mk H
                        clear H
                        have p343 : 0 ≤ ((ji16) : Int) := of_decide_eq_true (by first | (with_reducible assumption) | assumption)
                        have q343 : (ji16) < (x4_1.length : Int) := of_decide_eq_true (by first | (with_reducible assumption) | assumption)
                        obtain ⟨ad343, e343, hx343_0⟩ := Kd.at_int (Kd.R_reads' HO_4.out).2.2 (ji16) p343 q343
                        cases e343
                        replace p343 := eq_true p343
                        replace q343 := eq_true q343
                        go_wp2
                        repeat (go_quiet (fail); try go_wp2)
                        first | go_meet | ((simp only [← hji16, ← hji19]); go_meet)
                        case rel => exact ⟨_, (ji19), (by first | rfl | (simp; done) | (simp only [← hji19] <;> (first | rfl | simp)) | (simp [*]; done)), (by first | exact H' | ((simp only [hji16, hji19]); exact H') | (have h_ := H'.out; simp only [← hji16, ← hji19] at h_ ⊢; exact ⟨h_⟩)), ⟨by have := HK1.out; first | omega | exact Nat.le_refl _⟩, ⟨by (try simp only [hl4_1]); (with_reducible repeat (first | apply Kd.R_alloc | apply Kd.R_drewN | apply Kd.R_drew)); exact HO_4.out⟩, ⟨by repeat (first | (with_reducible first | exact HB.out | apply below_alloc | apply pw_below_drewN | apply below_drew1) | exact HB.out)⟩⟩
                      · rw [if_neg c18] at H
                        exact absurd H (by simp)
                    · rw [if_neg c17] at H
                      exact absurd H (by simp)
                  · rw [if_neg c15] at H
                    have c15b0 : decide (x17_1 < x6_1) = false := decide_eq_false c15
                    clear c15
                    (first | rw [c15b0] | (simp only [i64_w, i32_w]; rw [c15b0]) | skip)
                    have H' := Aside0.mk H
                    clear H
                    go_wp2
                    repeat (go_quiet (fail); try go_wp2)
                    go_meet
                    case rel => exact ⟨_, (0), (by first | rfl | (simp; done) | (simp [*]; done)), H', ⟨by have := HK1.out; first | omega | exact Nat.le_refl _⟩, ⟨by (try simp only [hl4_1]); (with_reducible repeat (first | apply Kd.R_alloc | apply Kd.R_drewN | apply Kd.R_drew)); exact HO_4.out⟩, ⟨by repeat (first | (with_reducible first | exact HB.out | apply below_alloc | apply pw_below_drewN | apply below_drew1) | exact HB.out)⟩⟩
                case rest =>
                  clear HC14
                  try clear c1
                  try clear p1
                  try clear q1
                  try clear hx1
                  try clear qi1
                  try clear hf1
                  try clear c2
                  try clear c2b0
                  try clear c2b1
                  try clear p2
                  try clear c3
                  try clear c3b0
                  try clear c3b1
                  try clear p3
                  try clear q3
                  try clear hx3
                  try clear c4
                  try clear c4b0
                  try clear c4b1
                  try clear p6
                  try clear c8
                  try clear c8b0
                  try clear c9
                  try clear c9b0
                  try clear c9b1
                  try clear c10
                  try clear c10b0
                  try clear c10b1
                  try clear p11
                  try clear q11
                  try clear hx11
                  try clear qi11
                  try clear hf11
                  try clear c15
                  try clear c15b0
                  try clear c17
                  try clear c17b0
                  try clear c18
                  try clear c18b0
                  try clear hx11_0
                  try clear hx343_0
                  try clear p11
                  try clear p2
                  try clear p343
                  try clear q11
                  try clear q343
                  obtain ⟨kq, x8_13, rfl, HA, HJ13, HO_4, HB⟩ := hcut
                  cases kq with
                  | zero => exact absurd HA.out (by simp [begin_Again.j1])
                  | succ kj13 =>
                    have H := HA.out
                    clear HA
                    simp only [begin_Again.j1] at H
                    have H' := Aside0.mk H
                    clear H
                    go_wp2
                    repeat (go_quiet (fail); try go_wp2)
                    go_loopg [8] kj13 (fun kq v8 w' => ∃ (x8_3 : Int), v8 = .int .i64 x8_3 ∧ Aside0 (begin_Again.l1 kq l0 x4_1 x5_1 x6_1 x17_1 x8_3 (y339.length : Int) x17_1 = some (r1, r2)) ∧ Aside0 (kq ≤ kj13) ∧ Aside0 (Kd.R (Kd.int .i64) 3 w' w.heap.size (fun _ => True) (.slice Ao7 x4_1.length co7) x4_1) ∧ Aside0 (Below w.heap.size w w'))
                    case atStart => exact ⟨(x8_13), (by first | rfl | (simp; done) | (simp [*]; done)), H', ⟨Nat.le_refl _⟩, ⟨by (try simp only [hl4_1]); (with_reducible repeat (first | apply Kd.R_alloc | apply Kd.R_drewN | apply Kd.R_drew)); exact HO_4.out⟩, ⟨by repeat (first | (with_reducible first | exact HB.out | apply below_alloc | apply pw_below_drewN | apply below_drew1) | exact HB.out)⟩⟩
                    case round =>
                      clear H'
                      try clear c1
                      try clear p1
                      try clear q1
                      try clear hx1
                      try clear qi1
                      try clear hf1
                      try clear c2
                      try clear c2b0
                      try clear c2b1
                      try clear p2
                      try clear c3
                      try clear c3b0
                      try clear c3b1
                      try clear p3
                      try clear q3
                      try clear hx3
                      try clear c4
                      try clear c4b0
                      try clear c4b1
                      try clear p6
                      try clear c8
                      try clear c8b0
                      try clear c9
                      try clear c9b0
                      try clear c9b1
                      try clear c10
                      try clear c10b0
                      try clear c10b1
                      try clear p11
                      try clear q11
                      try clear hx11
                      try clear qi11
                      try clear hf11
                      try clear c15
                      try clear c15b0
                      try clear c17
                      try clear c17b0
                      try clear c18
                      try clear c18b0
                      try clear hx11_0
                      try clear hx343_0
                      try clear p1
                      try clear p11
                      try clear p2
                      try clear p3
                      try clear p343
                      try clear p6
                      try clear q1
                      try clear q11
                      try clear q3
                      try clear q343
                      obtain ⟨x8_3, rfl, HA, HK3, HO_4, HB⟩ := hrel
                      cases gk with
                      | zero => exact absurd HA.out (by simp [begin_Again.l1])
                      | succ k3 =>
                        have H := HA.out
                        clear HA
                        simp only [begin_Again.l1] at H
                        by_cases c20 : (wrap64 (x17_1 + x8_3)) < (l0.length : Int)
                        · rw [if_pos c20] at H
                          have c20b0 : decide ((wrap64 (x17_1 + x8_3)) < (l0.length : Int)) = true := decide_eq_true c20
                          (try (have c20b0h := c20b0; simp only [hl4_1] at c20b0h))
                          clear c20
                          by_cases c21 : 0 ≤ x8_3
                          · rw [if_pos c21] at H
                            have c21b0 : decide (0 ≤ x8_3) = true := decide_eq_true c21
                            clear c21
                            by_cases c22 : x8_3 < (l0.length : Int)
                            · rw [if_pos c22] at H
                              have c22b0 : decide (x8_3 < (l0.length : Int)) = true := decide_eq_true c22
                              (try (have c22b0h := c22b0; simp only [hl4_1] at c22b0h))
                              clear c22
                              obtain ⟨ji23, hji23⟩ : ∃ j_ : Int, (wrap64 (x17_1 + x8_3)) = j_ := ⟨_, rfl⟩
                              replace H : (if 0 ≤ (ji23) then (if (rd l0 x8_3) = (rd l0 (ji23)) then (begin_Again.l1 k3 l0 x4_1 x5_1 x6_1 x17_1 (wrap64 (x8_3 + 1)) (y339.length : Int) x17_1) else (if (ji23) > x6_1 then (if 0 ≤ x17_1 then (if x17_1 < (x4_1.length : Int) then (begin_Again.l0 k3 l0 (x4_1.set (x17_1 : Int).toNat x8_3) x17_1 ji23 (y339.length : Int) (wrap64 (x17_1 + 1))) else (none)) else (none)) else (if 0 ≤ x17_1 then (if x17_1 < (x4_1.length : Int) then (begin_Again.l0 k3 l0 (x4_1.set (x17_1 : Int).toNat x8_3) x5_1 x6_1 (y339.length : Int) (wrap64 (x17_1 + 1))) else (none)) else (none)))) else (none)) = some (r1, r2) := by first | (rw [hji23] at H; exact H) | (simp only [hji23] at H ⊢; exact H)
                              (try rw [hji23] at c20b0)
                              have hji23w : (IntKind.i64.wrap (x17_1 + x8_3)) = ji23 := (i64_w _).trans hji23
                              by_cases c24 : 0 ≤ (ji23)
                              · rw [if_pos c24] at H
                                have c24b0 : decide (0 ≤ (ji23)) = true := decide_eq_true c24
                                clear c24
                                by_cases c25 : (rd l0 x8_3) = (rd l0 (ji23))
                                · rw [if_pos c25] at H
                                  have c25b0 : ((rd l0 x8_3) == (rd l0 (ji23))) = true := beq_iff_eq.mpr c25
                                  have c25b1 : ((rd l0 x8_3) != (rd l0 (ji23))) = false := bne_eq_false_iff_eq.mpr c25
                                  clear c25
                                  have H' := Aside0.mk H
                                  clear H
                                  have p344 : 0 ≤ (x8_3 : Int) := of_decide_eq_true (by first | (with_reducible assumption) | assumption)
                                  have q344 : x8_3 < (l0.length : Int) := of_decide_eq_true (by first | (with_reducible assumption) | assumption)
                                  obtain ⟨ad344, e344, hx344_0⟩ := Kd.at_int HR0.out x8_3 p344 q344
                                  cases e344
                                  replace hx344_0 := (HB.out.cell (World.block_lt_of_cell? w _ hx344_0)).trans hx344_0
                                  replace p344 := eq_true p344
                                  replace q344 := eq_true q344
                                  have p345 : 0 ≤ ((ji23) : Int) := of_decide_eq_true (by first | (with_reducible assumption) | assumption)
                                  have q345 : (ji23) < (l0.length : Int) := of_decide_eq_true (by first | (with_reducible assumption) | assumption)
                                  obtain ⟨ad345, e345, hx345_0⟩ := Kd.at_int HR0.out (ji23) p345 q345
                                  obtain rfl : ad344 = ad345 := (by injection e345)
                                  replace hx345_0 := (HB.out.cell (World.block_lt_of_cell? w _ hx345_0)).trans hx345_0
                                  replace p345 := eq_true p345
                                  replace q345 := eq_true q345
                                  go_wp2
                                  repeat (go_quiet (fail); try go_wp2)
                                  first | go_roundg k3 | ((simp only [← hji23]); go_roundg k3)
                                  case measure => have := HK1.out; have := HJ13.out; have := HK3.out; omega
                                  case rel => exact ⟨(wrap64 (x8_3 + 1)), (by first | rfl | (simp; done) | (simp [*]; done)), (by first | exact H' | ((simp only [hji23]); exact H') | (have h_ := H'.out; simp only [← hji23] at h_ ⊢; exact ⟨h_⟩)), ⟨by have := HK1.out; have := HJ13.out; have := HK3.out; omega⟩, ⟨by (try simp only [hl4_1]); (with_reducible repeat (first | apply Kd.R_alloc | apply Kd.R_drewN | apply Kd.R_drew)); exact HO_4.out⟩, ⟨by repeat (first | (with_reducible first | exact HB.out | apply below_alloc | apply pw_below_drewN | apply below_drew1) | exact HB.out)⟩⟩
                                · rw [if_neg c25] at H
                                  have c25b0 : ((rd l0 x8_3) == (rd l0 (ji23))) = false := beq_eq_false_iff_ne.mpr c25
                                  have c25b1 : ((rd l0 x8_3) != (rd l0 (ji23))) = true := bne_iff_ne.mpr c25
                                  by_cases c26 : (ji23) > x6_1
                                  · rw [if_pos c26] at H
                                    have c26b0 : decide (x6_1 < (ji23)) = true := decide_eq_true c26
                                    clear c26
                                    by_cases c27 : 0 ≤ x17_1
                                    · rw [if_pos c27] at H
                                      have c27b0 : decide (0 ≤ x17_1) = true := decide_eq_true c27
                                      clear c27
                                      by_cases c28 : x17_1 < (x4_1.length : Int)
                                      · rw [if_pos c28] at H
                                        have c28b0 : decide (x17_1 < (x4_1.length : Int)) = true := decide_eq_true c28
                                        (try (have c28b0h := c28b0; simp only [hl4_1] at c28b0h))
                                        clear c28
                                        obtain ⟨y346, hy346⟩ : ∃ y_ : List Int, y_ = (x4_1.set (x17_1 : Int).toNat x8_3) := ⟨_, rfl⟩
                                        replace H : (begin_Again.l0 k3 l0 y346 x17_1 ji23 (y339.length : Int) (wrap64 (x17_1 + 1))) = some (r1, r2) := by first | (rw [hy346]; with_reducible exact H) | (have H2_ := (Option.bind_some _ _).symm.trans H; rw [hy346]; with_reducible exact H2_) | (have H2_ := (Option.bind_some _ _).symm.trans H; with_reducible exact H2_) | with_reducible exact H | (rw [hy346]; exact H) | exact H
                                        have Ny346 := Aside0.mk hy346
                                        clear hy346
                                        have H' := Aside0.mk H
                                        clear H
                                        have p344 : 0 ≤ (x8_3 : Int) := of_decide_eq_true (by first | (with_reducible assumption) | assumption)
                                        have q344 : x8_3 < (l0.length : Int) := of_decide_eq_true (by first | (with_reducible assumption) | assumption)
                                        obtain ⟨ad344, e344, hx344_0⟩ := Kd.at_int HR0.out x8_3 p344 q344
                                        cases e344
                                        replace hx344_0 := (HB.out.cell (World.block_lt_of_cell? w _ hx344_0)).trans hx344_0
                                        replace p344 := eq_true p344
                                        replace q344 := eq_true q344
                                        have p345 : 0 ≤ ((ji23) : Int) := of_decide_eq_true (by first | (with_reducible assumption) | assumption)
                                        have q345 : (ji23) < (l0.length : Int) := of_decide_eq_true (by first | (with_reducible assumption) | assumption)
                                        obtain ⟨ad345, e345, hx345_0⟩ := Kd.at_int HR0.out (ji23) p345 q345
                                        obtain rfl : ad344 = ad345 := (by injection e345)
                                        replace hx345_0 := (HB.out.cell (World.block_lt_of_cell? w _ hx345_0)).trans hx345_0
                                        replace p345 := eq_true p345
                                        replace q345 := eq_true q345
                                        have p29 : 0 ≤ (x17_1 : Int) := of_decide_eq_true (by first | (with_reducible assumption) | assumption)
                                        have q29 : (x17_1 : Int) < ((x4_1.length : Int) : Int) := of_decide_eq_true (by first | (with_reducible assumption) | assumption)
                                        obtain ⟨go29, co29, eo29, gb29, gl29, cl29, HG29⟩ := Kd.R_form HO_4.out (by omega)
                                        (first | cases eo29 | (injection eo29 with ea_ en_ ec_; (first | subst ea_ | (injection ea_ with ea_; subst ea_)); subst ec_; clear en_))
                                        have GB29 := Aside0.mk gb29
                                        have GG29 := Aside0.mk HG29
                                        clear gb29 gl29 HG29
                                        obtain ⟨hx29_0, hf29_0⟩ := Kd.R_celln 0 HO_4.out (x17_1 : Int) p29 q29
                                        replace p29 := eq_true p29
                                        replace q29 := eq_true q29
                                        have HP30 := Kd.R_putg HO_4.out (x17_1 : Int) x8_3
                                        go_wp2_with (first | ((with_reducible refine gate_store (t := 3) (p := 72) rfl ?_); (try (rw [drewN_self wr]; generalize hq_ : World.drewN wr _ = wr; (try (have z_ := (congrArg (fun W_ => World.frozen? W_ _) hq_).symm.trans hf29_0; clear hf29_0; have hf29_0 := z_; clear z_)); (try (have z_ := (congrArg (fun W_ => World.cell? W_ _) hq_).symm.trans hx29_0; clear hx29_0; have hx29_0 := z_; clear z_)); (try (have z_ := (congrArg (fun W_ => World.cell? W_ _) hq_).symm.trans hx344_0; clear hx344_0; have hx344_0 := z_; clear z_)); (try (have z_ := (congrArg (fun W_ => World.cell? W_ _) hq_).symm.trans hx345_0; clear hx345_0; have hx345_0 := z_; clear z_)); have n0_ := Aside0.mk (Kd.R_at hq_ HO_4.out); have n1_ := Aside0.mk (below_at hq_ HB.out); clear hq_ HO_4 HB; have HO_4 := n0_; have HB := n1_; clear n0_ n1_; (try (have HP30 := Kd.R_putg HO_4.out (x17_1 : Int) x8_3)))); refine store_event (t := 3) (p := 72) (v := ?vo_w31) (w1 := (wr.setCell ⟨go29, (x17_1 : Int).toNat, none⟩ (.int .i64 x8_3))) ?hg ?ho ?hn ?hr ?_; (case ho => rfl); (case hg => rfl); (case hn => rfl); (case hr => first | (go_simp; done) | (go_simp; rfl)); intro w31 hw; have hg : wr.grownBy w31 (some go29) := (by rw [hw]; exact HP30.2); have hp_ : Kd.R (Kd.int .i64) 3 w31 w.heap.size (fun _ => True) (.slice (some ⟨go29, 0, none⟩) x4_1.length co7) y346 := (by rw [hw, Ny346.out]; exact HP30.1); clear HP30; have n0_ := Aside0.mk (hp_); have n1_ := Aside0.mk ((by rw [hw]; exact below_set (HB.out) GB29.out : Below w.heap.size w w31)); clear HO_4; clear HB; have HO_4 := n0_; have HB := n1_; clear n0_ n1_; clear hg hw hp_))
                                        repeat (go_quiet (first | ((with_reducible refine gate_store (t := 3) (p := 72) rfl ?_); (try (rw [drewN_self wr]; generalize hq_ : World.drewN wr _ = wr; (try (have z_ := (congrArg (fun W_ => World.frozen? W_ _) hq_).symm.trans hf29_0; clear hf29_0; have hf29_0 := z_; clear z_)); (try (have z_ := (congrArg (fun W_ => World.cell? W_ _) hq_).symm.trans hx29_0; clear hx29_0; have hx29_0 := z_; clear z_)); (try (have z_ := (congrArg (fun W_ => World.cell? W_ _) hq_).symm.trans hx344_0; clear hx344_0; have hx344_0 := z_; clear z_)); (try (have z_ := (congrArg (fun W_ => World.cell? W_ _) hq_).symm.trans hx345_0; clear hx345_0; have hx345_0 := z_; clear z_)); have n0_ := Aside0.mk (Kd.R_at hq_ HO_4.out); have n1_ := Aside0.mk (below_at hq_ HB.out); clear hq_ HO_4 HB; have HO_4 := n0_; have HB := n1_; clear n0_ n1_; (try (have HP30 := Kd.R_putg HO_4.out (x17_1 : Int) x8_3)))); refine store_event (t := 3) (p := 72) (v := ?vo_w31) (w1 := (wr.setCell ⟨go29, (x17_1 : Int).toNat, none⟩ (.int .i64 x8_3))) ?hg ?ho ?hn ?hr ?_; (case ho => rfl); (case hg => rfl); (case hn => rfl); (case hr => first | (go_simp; done) | (go_simp; rfl)); intro w31 hw; have hg : wr.grownBy w31 (some go29) := (by rw [hw]; exact HP30.2); have hp_ : Kd.R (Kd.int .i64) 3 w31 w.heap.size (fun _ => True) (.slice (some ⟨go29, 0, none⟩) x4_1.length co7) y346 := (by rw [hw, Ny346.out]; exact HP30.1); clear HP30; have n0_ := Aside0.mk (hp_); have n1_ := Aside0.mk ((by rw [hw]; exact below_set (HB.out) GB29.out : Below w.heap.size w w31)); clear HO_4; clear HB; have HO_4 := n0_; have HB := n1_; clear n0_ n1_; clear hg hw hp_)); try go_wp2_with (first | ((with_reducible refine gate_store (t := 3) (p := 72) rfl ?_); (try (rw [drewN_self wr]; generalize hq_ : World.drewN wr _ = wr; (try (have z_ := (congrArg (fun W_ => World.frozen? W_ _) hq_).symm.trans hf29_0; clear hf29_0; have hf29_0 := z_; clear z_)); (try (have z_ := (congrArg (fun W_ => World.cell? W_ _) hq_).symm.trans hx29_0; clear hx29_0; have hx29_0 := z_; clear z_)); (try (have z_ := (congrArg (fun W_ => World.cell? W_ _) hq_).symm.trans hx344_0; clear hx344_0; have hx344_0 := z_; clear z_)); (try (have z_ := (congrArg (fun W_ => World.cell? W_ _) hq_).symm.trans hx345_0; clear hx345_0; have hx345_0 := z_; clear z_)); have n0_ := Aside0.mk (Kd.R_at hq_ HO_4.out); have n1_ := Aside0.mk (below_at hq_ HB.out); clear hq_ HO_4 HB; have HO_4 := n0_; have HB := n1_; clear n0_ n1_; (try (have HP30 := Kd.R_putg HO_4.out (x17_1 : Int) x8_3)))); refine store_event (t := 3) (p := 72) (v := ?vo_w31) (w1 := (wr.setCell ⟨go29, (x17_1 : Int).toNat, none⟩ (.int .i64 x8_3))) ?hg ?ho ?hn ?hr ?_; (case ho => rfl); (case hg => rfl); (case hn => rfl); (case hr => first | (go_simp; done) | (go_simp; rfl)); intro w31 hw; have hg : wr.grownBy w31 (some go29) := (by rw [hw]; exact HP30.2); have hp_ : Kd.R (Kd.int .i64) 3 w31 w.heap.size (fun _ => True) (.slice (some ⟨go29, 0, none⟩) x4_1.length co7) y346 := (by rw [hw, Ny346.out]; exact HP30.1); clear HP30; have n0_ := Aside0.mk (hp_); have n1_ := Aside0.mk ((by rw [hw]; exact below_set (HB.out) GB29.out : Below w.heap.size w w31)); clear HO_4; clear HB; have HO_4 := n0_; have HB := n1_; clear n0_ n1_; clear hg hw hp_)))
                                        (try simp only [← hl4_1])
                                        first | go_roundg k3 | ((simp only [← hji23]); go_roundg k3)
                                        case measure => have := HK1.out; have := HJ13.out; have := HK3.out; omega
                                        case rel => exact ⟨(y346), (x17_1), (ji23), (wrap64 (x17_1 + 1)), (by first | rfl | (simp; done) | (simp [*]; done)), (by first | rfl | (simp; done) | (simp only [← hji23] <;> (first | rfl | simp)) | (simp [*]; done)), (by first | rfl | (simp; done) | (simp [*]; done)), (by first | exact H' | ((simp only [hji23]); exact H') | (have h_ := H'.out; simp only [← hji23] at h_ ⊢; exact ⟨h_⟩)), ⟨by have := HK1.out; have := HJ13.out; have := HK3.out; omega⟩, ⟨by (try simp only [hl4_1]); (with_reducible repeat (first | apply Kd.R_alloc | apply Kd.R_drewN | apply Kd.R_drew)); exact HO_4.out⟩, ⟨by repeat (first | (with_reducible first | exact HB.out | apply below_alloc | apply pw_below_drewN | apply below_drew1) | exact HB.out)⟩⟩
                                      · rw [if_neg c28] at H
                                        exact absurd H (by simp)
                                    · rw [if_neg c27] at H
                                      exact absurd H (by simp)
                                  · rw [if_neg c26] at H
                                    have c26b0 : decide (x6_1 < (ji23)) = false := decide_eq_false c26
                                    clear c26
                                    by_cases c32 : 0 ≤ x17_1
                                    · rw [if_pos c32] at H
                                      have c32b0 : decide (0 ≤ x17_1) = true := decide_eq_true c32
                                      clear c32
                                      by_cases c33 : x17_1 < (x4_1.length : Int)
                                      · rw [if_pos c33] at H
                                        have c33b0 : decide (x17_1 < (x4_1.length : Int)) = true := decide_eq_true c33
                                        (try (have c33b0h := c33b0; simp only [hl4_1] at c33b0h))
                                        clear c33
                                        obtain ⟨y347, hy347⟩ : ∃ y_ : List Int, y_ = (x4_1.set (x17_1 : Int).toNat x8_3) := ⟨_, rfl⟩
                                        replace H : (begin_Again.l0 k3 l0 y347 x5_1 x6_1 (y339.length : Int) (wrap64 (x17_1 + 1))) = some (r1, r2) := by first | (rw [hy347]; with_reducible exact H) | (have H2_ := (Option.bind_some _ _).symm.trans H; rw [hy347]; with_reducible exact H2_) | (have H2_ := (Option.bind_some _ _).symm.trans H; with_reducible exact H2_) | with_reducible exact H | (rw [hy347]; exact H) | exact H
                                        have Ny347 := Aside0.mk hy347
                                        clear hy347
                                        have H' := Aside0.mk H
                                        clear H
                                        have p344 : 0 ≤ (x8_3 : Int) := of_decide_eq_true (by first | (with_reducible assumption) | assumption)
                                        have q344 : x8_3 < (l0.length : Int) := of_decide_eq_true (by first | (with_reducible assumption) | assumption)
                                        obtain ⟨ad344, e344, hx344_0⟩ := Kd.at_int HR0.out x8_3 p344 q344
                                        cases e344
                                        replace hx344_0 := (HB.out.cell (World.block_lt_of_cell? w _ hx344_0)).trans hx344_0
                                        replace p344 := eq_true p344
                                        replace q344 := eq_true q344
                                        have p345 : 0 ≤ ((ji23) : Int) := of_decide_eq_true (by first | (with_reducible assumption) | assumption)
                                        have q345 : (ji23) < (l0.length : Int) := of_decide_eq_true (by first | (with_reducible assumption) | assumption)
                                        obtain ⟨ad345, e345, hx345_0⟩ := Kd.at_int HR0.out (ji23) p345 q345
                                        obtain rfl : ad344 = ad345 := (by injection e345)
                                        replace hx345_0 := (HB.out.cell (World.block_lt_of_cell? w _ hx345_0)).trans hx345_0
                                        replace p345 := eq_true p345
                                        replace q345 := eq_true q345
                                        have p34 : 0 ≤ (x17_1 : Int) := of_decide_eq_true (by first | (with_reducible assumption) | assumption)
                                        have q34 : (x17_1 : Int) < ((x4_1.length : Int) : Int) := of_decide_eq_true (by first | (with_reducible assumption) | assumption)
                                        obtain ⟨go34, co34, eo34, gb34, gl34, cl34, HG34⟩ := Kd.R_form HO_4.out (by omega)
                                        (first | cases eo34 | (injection eo34 with ea_ en_ ec_; (first | subst ea_ | (injection ea_ with ea_; subst ea_)); subst ec_; clear en_))
                                        have GB34 := Aside0.mk gb34
                                        have GG34 := Aside0.mk HG34
                                        clear gb34 gl34 HG34
                                        obtain ⟨hx34_0, hf34_0⟩ := Kd.R_celln 0 HO_4.out (x17_1 : Int) p34 q34
                                        replace p34 := eq_true p34
                                        replace q34 := eq_true q34
                                        have HP35 := Kd.R_putg HO_4.out (x17_1 : Int) x8_3
                                        go_wp2_with (first | ((with_reducible refine gate_store (t := 3) (p := 72) rfl ?_); (try (rw [drewN_self wr]; generalize hq_ : World.drewN wr _ = wr; (try (have z_ := (congrArg (fun W_ => World.frozen? W_ _) hq_).symm.trans hf34_0; clear hf34_0; have hf34_0 := z_; clear z_)); (try (have z_ := (congrArg (fun W_ => World.cell? W_ _) hq_).symm.trans hx344_0; clear hx344_0; have hx344_0 := z_; clear z_)); (try (have z_ := (congrArg (fun W_ => World.cell? W_ _) hq_).symm.trans hx345_0; clear hx345_0; have hx345_0 := z_; clear z_)); (try (have z_ := (congrArg (fun W_ => World.cell? W_ _) hq_).symm.trans hx34_0; clear hx34_0; have hx34_0 := z_; clear z_)); have n0_ := Aside0.mk (Kd.R_at hq_ HO_4.out); have n1_ := Aside0.mk (below_at hq_ HB.out); clear hq_ HO_4 HB; have HO_4 := n0_; have HB := n1_; clear n0_ n1_; (try (have HP35 := Kd.R_putg HO_4.out (x17_1 : Int) x8_3)))); refine store_event (t := 3) (p := 72) (v := ?vo_w36) (w1 := (wr.setCell ⟨go34, (x17_1 : Int).toNat, none⟩ (.int .i64 x8_3))) ?hg ?ho ?hn ?hr ?_; (case ho => rfl); (case hg => rfl); (case hn => rfl); (case hr => first | (go_simp; done) | (go_simp; rfl)); intro w36 hw; have hg : wr.grownBy w36 (some go34) := (by rw [hw]; exact HP35.2); have hp_ : Kd.R (Kd.int .i64) 3 w36 w.heap.size (fun _ => True) (.slice (some ⟨go34, 0, none⟩) x4_1.length co7) y347 := (by rw [hw, Ny347.out]; exact HP35.1); clear HP35; have n0_ := Aside0.mk (hp_); have n1_ := Aside0.mk ((by rw [hw]; exact below_set (HB.out) GB34.out : Below w.heap.size w w36)); clear HO_4; clear HB; have HO_4 := n0_; have HB := n1_; clear n0_ n1_; clear hg hw hp_))
                                        repeat (go_quiet (first | ((with_reducible refine gate_store (t := 3) (p := 72) rfl ?_); (try (rw [drewN_self wr]; generalize hq_ : World.drewN wr _ = wr; (try (have z_ := (congrArg (fun W_ => World.frozen? W_ _) hq_).symm.trans hf34_0; clear hf34_0; have hf34_0 := z_; clear z_)); (try (have z_ := (congrArg (fun W_ => World.cell? W_ _) hq_).symm.trans hx344_0; clear hx344_0; have hx344_0 := z_; clear z_)); (try (have z_ := (congrArg (fun W_ => World.cell? W_ _) hq_).symm.trans hx345_0; clear hx345_0; have hx345_0 := z_; clear z_)); (try (have z_ := (congrArg (fun W_ => World.cell? W_ _) hq_).symm.trans hx34_0; clear hx34_0; have hx34_0 := z_; clear z_)); have n0_ := Aside0.mk (Kd.R_at hq_ HO_4.out); have n1_ := Aside0.mk (below_at hq_ HB.out); clear hq_ HO_4 HB; have HO_4 := n0_; have HB := n1_; clear n0_ n1_; (try (have HP35 := Kd.R_putg HO_4.out (x17_1 : Int) x8_3)))); refine store_event (t := 3) (p := 72) (v := ?vo_w36) (w1 := (wr.setCell ⟨go34, (x17_1 : Int).toNat, none⟩ (.int .i64 x8_3))) ?hg ?ho ?hn ?hr ?_; (case ho => rfl); (case hg => rfl); (case hn => rfl); (case hr => first | (go_simp; done) | (go_simp; rfl)); intro w36 hw; have hg : wr.grownBy w36 (some go34) := (by rw [hw]; exact HP35.2); have hp_ : Kd.R (Kd.int .i64) 3 w36 w.heap.size (fun _ => True) (.slice (some ⟨go34, 0, none⟩) x4_1.length co7) y347 := (by rw [hw, Ny347.out]; exact HP35.1); clear HP35; have n0_ := Aside0.mk (hp_); have n1_ := Aside0.mk ((by rw [hw]; exact below_set (HB.out) GB34.out : Below w.heap.size w w36)); clear HO_4; clear HB; have HO_4 := n0_; have HB := n1_; clear n0_ n1_; clear hg hw hp_)); try go_wp2_with (first | ((with_reducible refine gate_store (t := 3) (p := 72) rfl ?_); (try (rw [drewN_self wr]; generalize hq_ : World.drewN wr _ = wr; (try (have z_ := (congrArg (fun W_ => World.frozen? W_ _) hq_).symm.trans hf34_0; clear hf34_0; have hf34_0 := z_; clear z_)); (try (have z_ := (congrArg (fun W_ => World.cell? W_ _) hq_).symm.trans hx344_0; clear hx344_0; have hx344_0 := z_; clear z_)); (try (have z_ := (congrArg (fun W_ => World.cell? W_ _) hq_).symm.trans hx345_0; clear hx345_0; have hx345_0 := z_; clear z_)); (try (have z_ := (congrArg (fun W_ => World.cell? W_ _) hq_).symm.trans hx34_0; clear hx34_0; have hx34_0 := z_; clear z_)); have n0_ := Aside0.mk (Kd.R_at hq_ HO_4.out); have n1_ := Aside0.mk (below_at hq_ HB.out); clear hq_ HO_4 HB; have HO_4 := n0_; have HB := n1_; clear n0_ n1_; (try (have HP35 := Kd.R_putg HO_4.out (x17_1 : Int) x8_3)))); refine store_event (t := 3) (p := 72) (v := ?vo_w36) (w1 := (wr.setCell ⟨go34, (x17_1 : Int).toNat, none⟩ (.int .i64 x8_3))) ?hg ?ho ?hn ?hr ?_; (case ho => rfl); (case hg => rfl); (case hn => rfl); (case hr => first | (go_simp; done) | (go_simp; rfl)); intro w36 hw; have hg : wr.grownBy w36 (some go34) := (by rw [hw]; exact HP35.2); have hp_ : Kd.R (Kd.int .i64) 3 w36 w.heap.size (fun _ => True) (.slice (some ⟨go34, 0, none⟩) x4_1.length co7) y347 := (by rw [hw, Ny347.out]; exact HP35.1); clear HP35; have n0_ := Aside0.mk (hp_); have n1_ := Aside0.mk ((by rw [hw]; exact below_set (HB.out) GB34.out : Below w.heap.size w w36)); clear HO_4; clear HB; have HO_4 := n0_; have HB := n1_; clear n0_ n1_; clear hg hw hp_)))
                                        (try simp only [← hl4_1])
                                        first | go_roundg k3 | ((simp only [← hji23]); go_roundg k3)
                                        case measure => have := HK1.out; have := HJ13.out; have := HK3.out; omega
                                        case rel => exact ⟨(y347), (x5_1), (x6_1), (wrap64 (x17_1 + 1)), (by first | rfl | (simp; done) | (simp [*]; done)), (by first | rfl | (simp; done) | (simp [*]; done)), (by first | rfl | (simp; done) | (simp [*]; done)), (by first | exact H' | ((simp only [hji23]); exact H') | (have h_ := H'.out; simp only [← hji23] at h_ ⊢; exact ⟨h_⟩)), ⟨by have := HK1.out; have := HJ13.out; have := HK3.out; omega⟩, ⟨by (try simp only [hl4_1]); (with_reducible repeat (first | apply Kd.R_alloc | apply Kd.R_drewN | apply Kd.R_drew)); exact HO_4.out⟩, ⟨by repeat (first | (with_reducible first | exact HB.out | apply below_alloc | apply pw_below_drewN | apply below_drew1) | exact HB.out)⟩⟩
                                      · rw [if_neg c33] at H
                                        exact absurd H (by simp)
                                    · rw [if_neg c32] at H
                                      exact absurd H (by simp)
                              · rw [if_neg c24] at H
                                exact absurd H (by simp)
                            · rw [if_neg c22] at H
                              exact absurd H (by simp)
                          · rw [if_neg c21] at H
                            exact absurd H (by simp)
                        · rw [if_neg c20] at H
                          have c20b0 : decide ((wrap64 (x17_1 + x8_3)) < (l0.length : Int)) = false := decide_eq_false c20
                          (try (have c20b0h := c20b0; simp only [hl4_1] at c20b0h))
                          clear c20
                          by_cases c37 : (wrap64 (x17_1 + x8_3)) > x6_1
                          · rw [if_pos c37] at H
                            have c37b0 : decide (x6_1 < (wrap64 (x17_1 + x8_3))) = true := decide_eq_true c37
                            clear c37
                            by_cases c38 : 0 ≤ x17_1
                            · rw [if_pos c38] at H
                              have c38b0 : decide (0 ≤ x17_1) = true := decide_eq_true c38
                              clear c38
                              by_cases c39 : x17_1 < (x4_1.length : Int)
                              · rw [if_pos c39] at H
                                have c39b0 : decide (x17_1 < (x4_1.length : Int)) = true := decide_eq_true c39
                                (try (have c39b0h := c39b0; simp only [hl4_1] at c39b0h))
                                clear c39
                                obtain ⟨y348, hy348⟩ : ∃ y_ : List Int, y_ = (x4_1.set (x17_1 : Int).toNat x8_3) := ⟨_, rfl⟩
                                replace H : (begin_Again.l0 k3 l0 y348 x17_1 (wrap64 (x17_1 + x8_3)) (y339.length : Int) (wrap64 (x17_1 + 1))) = some (r1, r2) := by first | (rw [hy348]; with_reducible exact H) | (have H2_ := (Option.bind_some _ _).symm.trans H; rw [hy348]; with_reducible exact H2_) | (have H2_ := (Option.bind_some _ _).symm.trans H; with_reducible exact H2_) | with_reducible exact H | (rw [hy348]; exact H) | exact H
                                have Ny348 := Aside0.mk hy348
                                clear hy348
                                have H' := Aside0.mk H
                                clear H
                                have p40 : 0 ≤ (x17_1 : Int) := of_decide_eq_true (by first | (with_reducible assumption) | assumption)
                                have q40 : (x17_1 : Int) < ((x4_1.length : Int) : Int) := of_decide_eq_true (by first | (with_reducible assumption) | assumption)
                                obtain ⟨go40, co40, eo40, gb40, gl40, cl40, HG40⟩ := Kd.R_form HO_4.out (by omega)
                                (first | cases eo40 | (injection eo40 with ea_ en_ ec_; (first | subst ea_ | (injection ea_ with ea_; subst ea_)); subst ec_; clear en_))
                                have GB40 := Aside0.mk gb40
                                have GG40 := Aside0.mk HG40
                                clear gb40 gl40 HG40
                                obtain ⟨hx40_0, hf40_0⟩ := Kd.R_celln 0 HO_4.out (x17_1 : Int) p40 q40
                                replace p40 := eq_true p40
                                replace q40 := eq_true q40
                                have HP41 := Kd.R_putg HO_4.out (x17_1 : Int) x8_3
                                go_wp2_with (first | ((with_reducible refine gate_store (t := 3) (p := 72) rfl ?_); (try (rw [drewN_self wr]; generalize hq_ : World.drewN wr _ = wr; (try (have z_ := (congrArg (fun W_ => World.frozen? W_ _) hq_).symm.trans hf40_0; clear hf40_0; have hf40_0 := z_; clear z_)); (try (have z_ := (congrArg (fun W_ => World.cell? W_ _) hq_).symm.trans hx40_0; clear hx40_0; have hx40_0 := z_; clear z_)); have n0_ := Aside0.mk (Kd.R_at hq_ HO_4.out); have n1_ := Aside0.mk (below_at hq_ HB.out); clear hq_ HO_4 HB; have HO_4 := n0_; have HB := n1_; clear n0_ n1_; (try (have HP41 := Kd.R_putg HO_4.out (x17_1 : Int) x8_3)))); refine store_event (t := 3) (p := 72) (v := ?vo_w42) (w1 := (wr.setCell ⟨go40, (x17_1 : Int).toNat, none⟩ (.int .i64 x8_3))) ?hg ?ho ?hn ?hr ?_; (case ho => rfl); (case hg => rfl); (case hn => rfl); (case hr => first | (go_simp; done) | (go_simp; rfl)); intro w42 hw; have hg : wr.grownBy w42 (some go40) := (by rw [hw]; exact HP41.2); have hp_ : Kd.R (Kd.int .i64) 3 w42 w.heap.size (fun _ => True) (.slice (some ⟨go40, 0, none⟩) x4_1.length co7) y348 := (by rw [hw, Ny348.out]; exact HP41.1); clear HP41; have n0_ := Aside0.mk (hp_); have n1_ := Aside0.mk ((by rw [hw]; exact below_set (HB.out) GB40.out : Below w.heap.size w w42)); clear HO_4; clear HB; have HO_4 := n0_; have HB := n1_; clear n0_ n1_; clear hg hw hp_))
                                repeat (go_quiet (first | ((with_reducible refine gate_store (t := 3) (p := 72) rfl ?_); (try (rw [drewN_self wr]; generalize hq_ : World.drewN wr _ = wr; (try (have z_ := (congrArg (fun W_ => World.frozen? W_ _) hq_).symm.trans hf40_0; clear hf40_0; have hf40_0 := z_; clear z_)); (try (have z_ := (congrArg (fun W_ => World.cell? W_ _) hq_).symm.trans hx40_0; clear hx40_0; have hx40_0 := z_; clear z_)); have n0_ := Aside0.mk (Kd.R_at hq_ HO_4.out); have n1_ := Aside0.mk (below_at hq_ HB.out); clear hq_ HO_4 HB; have HO_4 := n0_; have HB := n1_; clear n0_ n1_; (try (have HP41 := Kd.R_putg HO_4.out (x17_1 : Int) x8_3)))); refine store_event (t := 3) (p := 72) (v := ?vo_w42) (w1 := (wr.setCell ⟨go40, (x17_1 : Int).toNat, none⟩ (.int .i64 x8_3))) ?hg ?ho ?hn ?hr ?_; (case ho => rfl); (case hg => rfl); (case hn => rfl); (case hr => first | (go_simp; done) | (go_simp; rfl)); intro w42 hw; have hg : wr.grownBy w42 (some go40) := (by rw [hw]; exact HP41.2); have hp_ : Kd.R (Kd.int .i64) 3 w42 w.heap.size (fun _ => True) (.slice (some ⟨go40, 0, none⟩) x4_1.length co7) y348 := (by rw [hw, Ny348.out]; exact HP41.1); clear HP41; have n0_ := Aside0.mk (hp_); have n1_ := Aside0.mk ((by rw [hw]; exact below_set (HB.out) GB40.out : Below w.heap.size w w42)); clear HO_4; clear HB; have HO_4 := n0_; have HB := n1_; clear n0_ n1_; clear hg hw hp_)); try go_wp2_with (first | ((with_reducible refine gate_store (t := 3) (p := 72) rfl ?_); (try (rw [drewN_self wr]; generalize hq_ : World.drewN wr _ = wr; (try (have z_ := (congrArg (fun W_ => World.frozen? W_ _) hq_).symm.trans hf40_0; clear hf40_0; have hf40_0 := z_; clear z_)); (try (have z_ := (congrArg (fun W_ => World.cell? W_ _) hq_).symm.trans hx40_0; clear hx40_0; have hx40_0 := z_; clear z_)); have n0_ := Aside0.mk (Kd.R_at hq_ HO_4.out); have n1_ := Aside0.mk (below_at hq_ HB.out); clear hq_ HO_4 HB; have HO_4 := n0_; have HB := n1_; clear n0_ n1_; (try (have HP41 := Kd.R_putg HO_4.out (x17_1 : Int) x8_3)))); refine store_event (t := 3) (p := 72) (v := ?vo_w42) (w1 := (wr.setCell ⟨go40, (x17_1 : Int).toNat, none⟩ (.int .i64 x8_3))) ?hg ?ho ?hn ?hr ?_; (case ho => rfl); (case hg => rfl); (case hn => rfl); (case hr => first | (go_simp; done) | (go_simp; rfl)); intro w42 hw; have hg : wr.grownBy w42 (some go40) := (by rw [hw]; exact HP41.2); have hp_ : Kd.R (Kd.int .i64) 3 w42 w.heap.size (fun _ => True) (.slice (some ⟨go40, 0, none⟩) x4_1.length co7) y348 := (by rw [hw, Ny348.out]; exact HP41.1); clear HP41; have n0_ := Aside0.mk (hp_); have n1_ := Aside0.mk ((by rw [hw]; exact below_set (HB.out) GB40.out : Below w.heap.size w w42)); clear HO_4; clear HB; have HO_4 := n0_; have HB := n1_; clear n0_ n1_; clear hg hw hp_)))
                                (try simp only [← hl4_1])
                                go_roundg k3
                                case measure => have := HK1.out; have := HJ13.out; have := HK3.out; omega
                                case rel => exact ⟨(y348), (x17_1), (wrap64 (x17_1 + x8_3)), (wrap64 (x17_1 + 1)), (by first | rfl | (simp; done) | (simp [*]; done)), (by first | rfl | (simp; done) | (simp [*]; done)), (by first | rfl | (simp; done) | (simp [*]; done)), H', ⟨by have := HK1.out; have := HJ13.out; have := HK3.out; omega⟩, ⟨by (try simp only [hl4_1]); (with_reducible repeat (first | apply Kd.R_alloc | apply Kd.R_drewN | apply Kd.R_drew)); exact HO_4.out⟩, ⟨by repeat (first | (with_reducible first | exact HB.out | apply below_alloc | apply pw_below_drewN | apply below_drew1) | exact HB.out)⟩⟩
                              · rw [if_neg c39] at H
                                exact absurd H (by simp)
                            · rw [if_neg c38] at H
                              exact absurd H (by simp)
                          · rw [if_neg c37] at H
                            have c37b0 : decide (x6_1 < (wrap64 (x17_1 + x8_3))) = false := decide_eq_false c37
                            clear c37
                            by_cases c43 : 0 ≤ x17_1
                            · rw [if_pos c43] at H
                              have c43b0 : decide (0 ≤ x17_1) = true := decide_eq_true c43
                              clear c43
                              by_cases c44 : x17_1 < (x4_1.length : Int)
                              · rw [if_pos c44] at H
                                have c44b0 : decide (x17_1 < (x4_1.length : Int)) = true := decide_eq_true c44
                                (try (have c44b0h := c44b0; simp only [hl4_1] at c44b0h))
                                clear c44
                                obtain ⟨y349, hy349⟩ : ∃ y_ : List Int, y_ = (x4_1.set (x17_1 : Int).toNat x8_3) := ⟨_, rfl⟩
                                replace H : (begin_Again.l0 k3 l0 y349 x5_1 x6_1 (y339.length : Int) (wrap64 (x17_1 + 1))) = some (r1, r2) := by first | (rw [hy349]; with_reducible exact H) | (have H2_ := (Option.bind_some _ _).symm.trans H; rw [hy349]; with_reducible exact H2_) | (have H2_ := (Option.bind_some _ _).symm.trans H; with_reducible exact H2_) | with_reducible exact H | (rw [hy349]; exact H) | exact H
                                have Ny349 := Aside0.mk hy349
                                clear hy349
                                have H' := Aside0.mk H
                                clear H
                                have p45 : 0 ≤ (x17_1 : Int) := of_decide_eq_true (by first | (with_reducible assumption) | assumption)
                                have q45 : (x17_1 : Int) < ((x4_1.length : Int) : Int) := of_decide_eq_true (by first | (with_reducible assumption) | assumption)
                                obtain ⟨go45, co45, eo45, gb45, gl45, cl45, HG45⟩ := Kd.R_form HO_4.out (by omega)
                                (first | cases eo45 | (injection eo45 with ea_ en_ ec_; (first | subst ea_ | (injection ea_ with ea_; subst ea_)); subst ec_; clear en_))
                                have GB45 := Aside0.mk gb45
                                have GG45 := Aside0.mk HG45
                                clear gb45 gl45 HG45
                                obtain ⟨hx45_0, hf45_0⟩ := Kd.R_celln 0 HO_4.out (x17_1 : Int) p45 q45
                                replace p45 := eq_true p45
                                replace q45 := eq_true q45
                                have HP46 := Kd.R_putg HO_4.out (x17_1 : Int) x8_3
                                go_wp2_with (first | ((with_reducible refine gate_store (t := 3) (p := 72) rfl ?_); (try (rw [drewN_self wr]; generalize hq_ : World.drewN wr _ = wr; (try (have z_ := (congrArg (fun W_ => World.frozen? W_ _) hq_).symm.trans hf45_0; clear hf45_0; have hf45_0 := z_; clear z_)); (try (have z_ := (congrArg (fun W_ => World.cell? W_ _) hq_).symm.trans hx45_0; clear hx45_0; have hx45_0 := z_; clear z_)); have n0_ := Aside0.mk (Kd.R_at hq_ HO_4.out); have n1_ := Aside0.mk (below_at hq_ HB.out); clear hq_ HO_4 HB; have HO_4 := n0_; have HB := n1_; clear n0_ n1_; (try (have HP46 := Kd.R_putg HO_4.out (x17_1 : Int) x8_3)))); refine store_event (t := 3) (p := 72) (v := ?vo_w47) (w1 := (wr.setCell ⟨go45, (x17_1 : Int).toNat, none⟩ (.int .i64 x8_3))) ?hg ?ho ?hn ?hr ?_; (case ho => rfl); (case hg => rfl); (case hn => rfl); (case hr => first | (go_simp; done) | (go_simp; rfl)); intro w47 hw; have hg : wr.grownBy w47 (some go45) := (by rw [hw]; exact HP46.2); have hp_ : Kd.R (Kd.int .i64) 3 w47 w.heap.size (fun _ => True) (.slice (some ⟨go45, 0, none⟩) x4_1.length co7) y349 := (by rw [hw, Ny349.out]; exact HP46.1); clear HP46; have n0_ := Aside0.mk (hp_); have n1_ := Aside0.mk ((by rw [hw]; exact below_set (HB.out) GB45.out : Below w.heap.size w w47)); clear HO_4; clear HB; have HO_4 := n0_; have HB := n1_; clear n0_ n1_; clear hg hw hp_))
                                repeat (go_quiet (first | ((with_reducible refine gate_store (t := 3) (p := 72) rfl ?_); (try (rw [drewN_self wr]; generalize hq_ : World.drewN wr _ = wr; (try (have z_ := (congrArg (fun W_ => World.frozen? W_ _) hq_).symm.trans hf45_0; clear hf45_0; have hf45_0 := z_; clear z_)); (try (have z_ := (congrArg (fun W_ => World.cell? W_ _) hq_).symm.trans hx45_0; clear hx45_0; have hx45_0 := z_; clear z_)); have n0_ := Aside0.mk (Kd.R_at hq_ HO_4.out); have n1_ := Aside0.mk (below_at hq_ HB.out); clear hq_ HO_4 HB; have HO_4 := n0_; have HB := n1_; clear n0_ n1_; (try (have HP46 := Kd.R_putg HO_4.out (x17_1 : Int) x8_3)))); refine store_event (t := 3) (p := 72) (v := ?vo_w47) (w1 := (wr.setCell ⟨go45, (x17_1 : Int).toNat, none⟩ (.int .i64 x8_3))) ?hg ?ho ?hn ?hr ?_; (case ho => rfl); (case hg => rfl); (case hn => rfl); (case hr => first | (go_simp; done) | (go_simp; rfl)); intro w47 hw; have hg : wr.grownBy w47 (some go45) := (by rw [hw]; exact HP46.2); have hp_ : Kd.R (Kd.int .i64) 3 w47 w.heap.size (fun _ => True) (.slice (some ⟨go45, 0, none⟩) x4_1.length co7) y349 := (by rw [hw, Ny349.out]; exact HP46.1); clear HP46; have n0_ := Aside0.mk (hp_); have n1_ := Aside0.mk ((by rw [hw]; exact below_set (HB.out) GB45.out : Below w.heap.size w w47)); clear HO_4; clear HB; have HO_4 := n0_; have HB := n1_; clear n0_ n1_; clear hg hw hp_)); try go_wp2_with (first | ((with_reducible refine gate_store (t := 3) (p := 72) rfl ?_); (try (rw [drewN_self wr]; generalize hq_ : World.drewN wr _ = wr; (try (have z_ := (congrArg (fun W_ => World.frozen? W_ _) hq_).symm.trans hf45_0; clear hf45_0; have hf45_0 := z_; clear z_)); (try (have z_ := (congrArg (fun W_ => World.cell? W_ _) hq_).symm.trans hx45_0; clear hx45_0; have hx45_0 := z_; clear z_)); have n0_ := Aside0.mk (Kd.R_at hq_ HO_4.out); have n1_ := Aside0.mk (below_at hq_ HB.out); clear hq_ HO_4 HB; have HO_4 := n0_; have HB := n1_; clear n0_ n1_; (try (have HP46 := Kd.R_putg HO_4.out (x17_1 : Int) x8_3)))); refine store_event (t := 3) (p := 72) (v := ?vo_w47) (w1 := (wr.setCell ⟨go45, (x17_1 : Int).toNat, none⟩ (.int .i64 x8_3))) ?hg ?ho ?hn ?hr ?_; (case ho => rfl); (case hg => rfl); (case hn => rfl); (case hr => first | (go_simp; done) | (go_simp; rfl)); intro w47 hw; have hg : wr.grownBy w47 (some go45) := (by rw [hw]; exact HP46.2); have hp_ : Kd.R (Kd.int .i64) 3 w47 w.heap.size (fun _ => True) (.slice (some ⟨go45, 0, none⟩) x4_1.length co7) y349 := (by rw [hw, Ny349.out]; exact HP46.1); clear HP46; have n0_ := Aside0.mk (hp_); have n1_ := Aside0.mk ((by rw [hw]; exact below_set (HB.out) GB45.out : Below w.heap.size w w47)); clear HO_4; clear HB; have HO_4 := n0_; have HB := n1_; clear n0_ n1_; clear hg hw hp_)))
                                (try simp only [← hl4_1])
                                go_roundg k3
                                case measure => have := HK1.out; have := HJ13.out; have := HK3.out; omega
                                case rel => exact ⟨(y349), (x5_1), (x6_1), (wrap64 (x17_1 + 1)), (by first | rfl | (simp; done) | (simp [*]; done)), (by first | rfl | (simp; done) | (simp [*]; done)), (by first | rfl | (simp; done) | (simp [*]; done)), H', ⟨by have := HK1.out; have := HJ13.out; have := HK3.out; omega⟩, ⟨by (try simp only [hl4_1]); (with_reducible repeat (first | apply Kd.R_alloc | apply Kd.R_drewN | apply Kd.R_drew)); exact HO_4.out⟩, ⟨by repeat (first | (with_reducible first | exact HB.out | apply below_alloc | apply pw_below_drewN | apply below_drew1) | exact HB.out)⟩⟩
                              · rw [if_neg c44] at H
                                exact absurd H (by simp)
                            · rw [if_neg c43] at H
                              exact absurd H (by simp)
            · rw [if_neg c8] at H
              have c8b0 : decide (x17_1 < (y339.length : Int)) = false := decide_eq_false c8
              (try (have c8b0h := c8b0; simp only [hl4_1] at c8b0h))
              clear c8
              simp only [Option.some.injEq, Prod.mk.injEq] at H
              obtain ⟨rfl, rfl⟩ := H
              go_wp2
              repeat (go_quiet (fail); try go_wp2)
              go_ret2
              exact ⟨_, by first | rfl | (simp [errW_none, errW_some] <;> rfl) | (simp [*, errW_none, errW_some] <;> rfl), by (with_reducible repeat (first | apply Kd.R_alloc | apply Kd.R_drewN | apply Kd.R_drew)); exact HO_4.out, by repeat (first | (with_reducible first | exact HB.out | apply below_alloc | apply pw_below_drewN | apply below_drew1) | exact HB.out)⟩
      · rw [if_neg c4] at H
        exact absurd H (by simp)
    · rw [if_neg c3] at H
      exact absurd H (by simp)

end Go.Proofs.Ytancbigkdjbhnaa.GA
