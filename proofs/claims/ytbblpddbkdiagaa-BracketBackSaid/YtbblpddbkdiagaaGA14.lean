-- Written by ext.py, a program of this session.
import Derived.Test.YtbblpddbkdiagaaGA0
namespace Go.Proofs.Ytbblpddbkdiagaa.GA
open Go.RowKit Go.Proofs.YtbblpddbkdiagaaW.PrintWords Go.Proofs.YtbblpddbkdiagaaW.PrintLast Go.Proofs.YtbblpddbkdiagaaW.PrintMore
attribute [local go_sem] max2_int min2_int max_two min_two max_three min_three max_four min_four   -- for this text's walks alone
set_option linter.unusedVariables false
set_option linter.unusedSimpArgs false

/-! ### coppicerref_Closed: function 32 -/
def coppicerref_Closed.l0 : Nat → List Bool → Int → Option (Bool)
  | 0, _, _ => none
  | k + 1, x3, x4 => if (wrap64 (x4 + 1)) < (x3.length : Int) then (if 0 ≤ x4 then (if x4 < (x3.length : Int) then (if rdOf false x3 x4 = true then (if 0 ≤ (wrap64 (x4 + 1)) then (if (rdOf false x3 (wrap64 (x4 + 1)) = true) then (coppicerref_Closed.l0 k x3 (wrap64 (x4 + 1))) else ((some (([] : List Bool) : List Bool)).bind fun y259 => (if x4 ≤ (x3.length : Int) then ((some (x3.take (x4 : Int).toNat : List Bool)).bind fun y262 => (if y259.length + y262.length < 140737488355328 then ((some (y259 ++ y262 : List Bool)).bind fun y266 => (if 0 ≤ (wrap64 (x4 + 2)) then (if (wrap64 (x4 + 2)) ≤ (x3.length : Int) then ((some (x3.drop ((wrap64 (x4 + 2)) : Int).toNat : List Bool)).bind fun y269 => (if y266.length + y269.length < 140737488355328 then (coppicerref_Closed.l0 k (y266 ++ y269) 0) else (none))) else (none)) else (none))) else (none))) else (none)))) else (none)) else (coppicerref_Closed.l0 k x3 (wrap64 (x4 + 1)))) else (none)) else (none)) else (some ((x3.length : Int) == 0))
def coppicerref_Closed.f (k : Nat) (l0 : List Bool) : Option (Bool) := (some (([] : List Bool) : List Bool)).bind fun y251 => (if y251.length + l0.length < 140737488355328 then (coppicerref_Closed.l0 k (y251 ++ l0) 0) else (none))
theorem coppicerref_Closed.mono_l : ∀ k, (∀ y0 y1, LeO (coppicerref_Closed.l0 k y0 y1) (coppicerref_Closed.l0 (k + 1) y0 y1))
  | 0 => fun _ _ r h => by simp [coppicerref_Closed.l0] at h
  | k + 1 => by
    have ih0 := coppicerref_Closed.mono_l k
    · intro y0 y1
      unfold coppicerref_Closed.l0
      repeat' first
      | (with_reducible exact ih0 _ _)
      | (with_reducible exact LeO.refl _)
      | (with_reducible exact LeO.none _)
      | (with_reducible refine LeO.ite ?_ ?_)
      | (with_reducible refine LeO.bind ?_ (fun _ => ?_))
      | exact ih0 _ _
      | exact LeO.none _
      | refine LeO.ite ?_ ?_
      | refine LeO.bind ?_ (fun _ => ?_)
theorem coppicerref_Closed.mono : ∀ a0 k, LeO (coppicerref_Closed.f k a0) (coppicerref_Closed.f (k + 1) a0) := by
  intro a0 k
  have ih0 := coppicerref_Closed.mono_l k
  unfold coppicerref_Closed.f
  repeat' first
      | (with_reducible exact ih0 _ _)
      | (with_reducible exact LeO.refl _)
      | (with_reducible exact LeO.none _)
      | (with_reducible refine LeO.ite ?_ ?_)
      | (with_reducible refine LeO.bind ?_ (fun _ => ?_))
      | exact ih0 _ _
      | exact LeO.none _
      | refine LeO.ite ?_ ?_
      | refine LeO.bind ?_ (fun _ => ?_)
def coppicerref_Closed.T5 : Bool × List (List Nat × List Nat) := (true, [([], []), ([], []), ([], []), ([1, 2], [1, 2]), ([0, 3], [0, 3]), ([], []), ([], []), ([6], [6]), ([5, 7], [5, 7]), ([4, 8, 4], [4, 8]), ([9, 9, 0, 1, 2, 3, 4, 5, 6, 7, 8, 9], [1, 5, 9])])
def coppicerref_Closed.B5 : List Nat := [0, 0, 0, 6, 15, 0, 0, 64, 224, 511, 1023]
theorem coppicerref_Closed.tab5 : rtab .any (opsOf Try.f32 5) = coppicerref_Closed.T5 := by kernel_rfl
theorem coppicerref_Closed.bits5 : waitsOk coppicerref_Closed.T5.2 coppicerref_Closed.B5 = true := by kernel_rfl
set_option maxHeartbeats 8000000 in
set_option maxRecDepth 100000 in
theorem coppicerref_Closed.calls (k : Nat) (A0 : Option Addr) (c0 : Nat) (l0 : List Bool) (r : Bool) (w : World) (hr0 : Kd.C Kd.bool w A0 l0.length l0) (hc0 : l0.length ≤ c0) (h : coppicerref_Closed.f k l0 = some r) :
    Calls Try.prog 32 #[.slice A0 l0.length c0] w fun e w' => e = .returned (.bool r) ∧ Below w.heap.size w w' := by
  have HR0 := Aside0.mk hr0
  have HC0 := Aside0.mk hc0
  clear hr0 hc0
  have HB := Aside0.mk (Below.refl w.heap.size w)
  have H : ((some (([] : List Bool) : List Bool)).bind fun y251 => (if y251.length + l0.length < 140737488355328 then (coppicerref_Closed.l0 k (y251 ++ l0) 0) else (none))) = some r := h
  clear h
  obtain ⟨y251, hy251⟩ : ∃ y_ : List Bool, y_ = (([] : List Bool)) := ⟨_, rfl⟩
  replace H : (if y251.length + l0.length < 140737488355328 then (coppicerref_Closed.l0 k (y251 ++ l0) 0) else (none)) = some r := by first | (rw [hy251]; with_reducible exact H) | (have H2_ := (Option.bind_some _ _).symm.trans H; rw [hy251]; with_reducible exact H2_) | (have H2_ := (Option.bind_some _ _).symm.trans H; with_reducible exact H2_) | with_reducible exact H | (rw [hy251]; exact H) | exact H
  have Ny251 := Aside0.mk hy251
  clear hy251
  by_cases c2 : y251.length + l0.length < 140737488355328
  · rw [if_pos c2] at H
    have LMc2 := Aside0.mk c2
    clear c2
    obtain ⟨y254, hy254⟩ : ∃ y_ : List Bool, y_ = (y251 ++ l0) := ⟨_, rfl⟩
    replace H : (coppicerref_Closed.l0 k y254 0) = some r := by first | (rw [hy254]; with_reducible exact H) | (have H2_ := (Option.bind_some _ _).symm.trans H; rw [hy254]; with_reducible exact H2_) | (have H2_ := (Option.bind_some _ _).symm.trans H; with_reducible exact H2_) | with_reducible exact H | (rw [hy254]; exact H) | exact H
    have Ny254 := Aside0.mk hy254
    clear hy254
    have H' := Aside0.mk H
    clear H
    go_enter Try.func32, Try.ntmps32
    go_wp2_with (first | ((with_reducible refine gate_dst (N := 5) rfl ?_); refine Kd.R_lit Kd.bool _ 4 ?hg (N := 5) ?hd (xs := ([] : List Bool)) (inner := []) (ok := fun _ => True) (okp := fun _ => True) ?hr ?hp (fun _ hk => hk) trivial (Below.refl _ _) (Nat.le_refl _) (by simp) ?_; (case hd => rfl); (case hg => rfl); (case hr => first | (go_simp; done) | (go_simp; rfl)); (case hp => exact (Reps.none _ _)); intro v252 w3 ho4 hb hg_ hnew_; clear hg_ hnew_; (first | rw [← Ny251.out] at ho4 | (simp only [Int.reduceToNat] at ho4; rw [← Ny251.out] at ho4)); have n0_ := Aside0.mk (Kd.R_lower ho4 (below_size (by repeat (first | (with_reducible first | exact HB.out | apply below_alloc | apply pw_below_drewN | apply below_drew1) | exact HB.out)))); have n1_ := Aside0.mk (below_step (by repeat (first | (with_reducible first | exact HB.out | apply below_alloc | apply pw_below_drewN | apply below_drew1) | exact HB.out)) hb); clear HB; have HO253 := n0_; have HB := n1_; clear n0_ n1_; clear hb ho4) | ((with_reducible refine gate_builtin (b := .append) (xs := #[.tmp 5, .tmp 6]) rfl ?_); at_builtin; refine Kd.R_append_rows Kd.bool (w0 := w) w.heap.size rfl (.tmp 5) (.tmp 6) 49 4 (.bool false) 1 rfl Try.underlying49 info4 rfl (by decide) (by omega) v252 y251 l0 _ _ _ (fun _ => True) (fun _ => False) rfl rfl ?aO ?aR (fun _ _ h => h) (fun _ h => h.elim) ?aF ?aB ?aS ?aL ?_; (case aR => repeat (first | exact (Kd.C_below HR0.out HB.out) | (with_reducible refine Kd.C_alloc ?_ _) | (with_reducible refine Kd.C_drewN ?_ _) | (with_reducible refine Kd.C_drew ?_))); (case aB => exact (by repeat (first | (with_reducible first | exact HB.out | apply below_alloc | apply pw_below_drewN | apply below_drew1) | exact HB.out))); (case aF => exact (fun _ _ => trivial)); (case aO => exact (by (with_reducible repeat (first | apply Kd.R_alloc | apply Kd.R_drewN | apply Kd.R_drew)); exact HO253.out)); (case aS => exact (below_size (by repeat (first | (with_reducible first | exact HB.out | apply below_alloc | apply pw_below_drewN | apply below_drew1) | exact HB.out)))); (case aL => have := LMc2.out; omega); intro v255 w5 ho hb hg hat; rw [← Ny254.out] at ho; have n0_ := Aside0.mk (hb); have n1_ := Aside0.mk (ho); clear HB; clear HO253; have HB := n0_; have HO256 := n1_; clear n0_ n1_; clear ho hb hg hat))
    go_loopg [3, 4] k (fun kq v3 v4 w' => ∃ (x3_1 : List Bool) (x4_1 : Int), v4 = .int .i64 x4_1 ∧ Aside0 (coppicerref_Closed.l0 kq x3_1 x4_1 = some r) ∧ Aside0 (kq ≤ k) ∧ Aside0 (Kd.R Kd.bool 4 w' w.heap.size (fun _ => True) v3 x3_1) ∧ Aside0 (Below w.heap.size w w'))
    case atStart => exact ⟨(y254), (0), (by first | rfl | (simp; done) | (simp [*]; done)), H', ⟨Nat.le_refl _⟩, ⟨by (with_reducible repeat (first | apply Kd.R_alloc | apply Kd.R_drewN | apply Kd.R_drew)); exact HO256.out⟩, ⟨by repeat (first | (with_reducible first | exact HB.out | apply below_alloc | apply pw_below_drewN | apply below_drew1) | exact HB.out)⟩⟩
    case round =>
      clear H'
      try clear c2
      try clear p2
      try clear c3
      obtain ⟨x3_1, x4_1, rfl, HA, HK1, HO_3, HB⟩ := hrel
      cases gk with
      | zero => exact absurd HA.out (by simp [coppicerref_Closed.l0])
      | succ k1 =>
        have H := HA.out
        clear HA
        simp only [coppicerref_Closed.l0] at H
        by_cases c6 : (wrap64 (x4_1 + 1)) < (x3_1.length : Int)
        · rw [if_pos c6] at H
          have c6b0 : decide ((wrap64 (x4_1 + 1)) < (x3_1.length : Int)) = true := decide_eq_true c6
          clear c6
          by_cases c7 : 0 ≤ x4_1
          · rw [if_pos c7] at H
            have c7b0 : decide (0 ≤ x4_1) = true := decide_eq_true c7
            clear c7
            by_cases c8 : x4_1 < (x3_1.length : Int)
            · rw [if_pos c8] at H
              have c8b0 : decide (x4_1 < (x3_1.length : Int)) = true := decide_eq_true c8
              clear c8
              obtain ⟨bq9, hbq9⟩ : ∃ b_ : Bool, b_ = (rdOf false x3_1 x4_1) := ⟨_, rfl⟩
              replace H : (if bq9 = true then (if 0 ≤ (wrap64 (x4_1 + 1)) then (if (rdOf false x3_1 (wrap64 (x4_1 + 1)) = true) then (coppicerref_Closed.l0 k1 x3_1 (wrap64 (x4_1 + 1))) else ((some (([] : List Bool) : List Bool)).bind fun y259 => (if x4_1 ≤ (x3_1.length : Int) then ((some (x3_1.take (x4_1 : Int).toNat : List Bool)).bind fun y262 => (if y259.length + y262.length < 140737488355328 then ((some (y259 ++ y262 : List Bool)).bind fun y266 => (if 0 ≤ (wrap64 (x4_1 + 2)) then (if (wrap64 (x4_1 + 2)) ≤ (x3_1.length : Int) then ((some (x3_1.drop ((wrap64 (x4_1 + 2)) : Int).toNat : List Bool)).bind fun y269 => (if y266.length + y269.length < 140737488355328 then (coppicerref_Closed.l0 k1 (y266 ++ y269) 0) else (none))) else (none)) else (none))) else (none))) else (none)))) else (none)) else (coppicerref_Closed.l0 k1 x3_1 (wrap64 (x4_1 + 1)))) = some r := by rw [← hbq9] at H; exact H
              have Nbq9 := Aside0.mk hbq9
              clear hbq9
              by_cases c10 : bq9 = true
              · subst c10
                have H1 : (if 0 ≤ (wrap64 (x4_1 + 1)) then (if (rdOf false x3_1 (wrap64 (x4_1 + 1)) = true) then (coppicerref_Closed.l0 k1 x3_1 (wrap64 (x4_1 + 1))) else ((some (([] : List Bool) : List Bool)).bind fun y259 => (if x4_1 ≤ (x3_1.length : Int) then ((some (x3_1.take (x4_1 : Int).toNat : List Bool)).bind fun y262 => (if y259.length + y262.length < 140737488355328 then ((some (y259 ++ y262 : List Bool)).bind fun y266 => (if 0 ≤ (wrap64 (x4_1 + 2)) then (if (wrap64 (x4_1 + 2)) ≤ (x3_1.length : Int) then ((some (x3_1.drop ((wrap64 (x4_1 + 2)) : Int).toNat : List Bool)).bind fun y269 => (if y266.length + y269.length < 140737488355328 then (coppicerref_Closed.l0 k1 (y266 ++ y269) 0) else (none))) else (none)) else (none))) else (none))) else (none)))) else (none)) = some r := by rw [if_pos rfl] at H; exact H
                clear H
                have H := H1
                clear H1
                obtain ⟨ji11, hji11⟩ : ∃ j_ : Int, (wrap64 (x4_1 + 1)) = j_ := ⟨_, rfl⟩
                replace H : (if 0 ≤ (ji11) then (if (rdOf false x3_1 (ji11) = true) then (coppicerref_Closed.l0 k1 x3_1 ji11) else ((some (([] : List Bool) : List Bool)).bind fun y259 => (if x4_1 ≤ (x3_1.length : Int) then ((some (x3_1.take (x4_1 : Int).toNat : List Bool)).bind fun y262 => (if y259.length + y262.length < 140737488355328 then ((some (y259 ++ y262 : List Bool)).bind fun y266 => (if 0 ≤ (wrap64 (x4_1 + 2)) then (if (wrap64 (x4_1 + 2)) ≤ (x3_1.length : Int) then ((some (x3_1.drop ((wrap64 (x4_1 + 2)) : Int).toNat : List Bool)).bind fun y269 => (if y266.length + y269.length < 140737488355328 then (coppicerref_Closed.l0 k1 (y266 ++ y269) 0) else (none))) else (none)) else (none))) else (none))) else (none)))) else (none)) = some r := by first | (rw [hji11] at H; exact H) | (simp only [hji11] at H ⊢; exact H)
                (try rw [hji11] at c6b0)
                have hji11w : (IntKind.i64.wrap (x4_1 + 1)) = ji11 := (i64_w _).trans hji11
                by_cases c12 : 0 ≤ (ji11)
                · rw [if_pos c12] at H
                  have c12b0 : decide (0 ≤ (ji11)) = true := decide_eq_true c12
                  clear c12
                  obtain ⟨bq13, hbq13⟩ : ∃ b_ : Bool, b_ = (rdOf false x3_1 (ji11)) := ⟨_, rfl⟩
                  replace H : (if (bq13 = true) then (coppicerref_Closed.l0 k1 x3_1 ji11) else ((some (([] : List Bool) : List Bool)).bind fun y259 => (if x4_1 ≤ (x3_1.length : Int) then ((some (x3_1.take (x4_1 : Int).toNat : List Bool)).bind fun y262 => (if y259.length + y262.length < 140737488355328 then ((some (y259 ++ y262 : List Bool)).bind fun y266 => (if 0 ≤ (wrap64 (x4_1 + 2)) then (if (wrap64 (x4_1 + 2)) ≤ (x3_1.length : Int) then ((some (x3_1.drop ((wrap64 (x4_1 + 2)) : Int).toNat : List Bool)).bind fun y269 => (if y266.length + y269.length < 140737488355328 then (coppicerref_Closed.l0 k1 (y266 ++ y269) 0) else (none))) else (none)) else (none))) else (none))) else (none)))) = some r := by rw [← hbq13] at H; exact H
                  have Nbq13 := Aside0.mk hbq13
                  clear hbq13
                  by_cases c14 : (bq13 = true)
                  · subst c14
                    have H1 : (coppicerref_Closed.l0 k1 x3_1 ji11) = some r := by rw [if_pos rfl] at H; exact H
                    clear H
                    have H := H1
                    clear H1
                    have H' := Aside0.mk H
                    clear H
                    obtain ⟨Ao15, co15, eo15⟩ := Kd.R_slice HO_3.out
                    subst eo15
                    have p257 : 0 ≤ (x4_1 : Int) := of_decide_eq_true (by first | (with_reducible assumption) | assumption)
                    have q257 : x4_1 < (x3_1.length : Int) := of_decide_eq_true (by first | (with_reducible assumption) | assumption)
                    obtain ⟨ad257, e257, hx257_0⟩ := Kd.at_bool (Kd.R_reads' HO_3.out).2.2 x4_1 p257 q257
                    (try rw [← Nbq9.out] at hx257_0)
                    (try rw [← Nbq13.out] at hx257_0)
                    cases e257
                    replace p257 := eq_true p257
                    replace q257 := eq_true q257
                    have p258 : 0 ≤ ((ji11) : Int) := of_decide_eq_true (by first | (with_reducible assumption) | assumption)
                    have q258 : (ji11) < (x3_1.length : Int) := of_decide_eq_true (by first | (with_reducible assumption) | assumption)
                    obtain ⟨ad258, e258, hx258_0⟩ := Kd.at_bool (Kd.R_reads' HO_3.out).2.2 (ji11) p258 q258
                    (try rw [← Nbq9.out] at hx258_0)
                    (try rw [← Nbq13.out] at hx258_0)
                    obtain rfl : ad257 = ad258 := (by injection e258)
                    replace p258 := eq_true p258
                    replace q258 := eq_true q258
                    go_wp2
                    first | go_roundg k1 | ((simp only [← hji11]); go_roundg k1)
                    case measure => have := HK1.out; omega
                    case rel => exact ⟨(x3_1), (ji11), (by first | rfl | (simp; done) | (simp only [← hji11] <;> (first | rfl | simp)) | (simp [*]; done)), (by first | exact H' | ((simp only [hji11]); exact H') | (have h_ := H'.out; simp only [← hji11] at h_ ⊢; exact ⟨h_⟩)), ⟨by have := HK1.out; omega⟩, ⟨by (with_reducible repeat (first | apply Kd.R_alloc | apply Kd.R_drewN | apply Kd.R_drew)); exact HO_3.out⟩, ⟨by repeat (first | (with_reducible first | exact HB.out | apply below_alloc | apply pw_below_drewN | apply below_drew1) | exact HB.out)⟩⟩
                  · replace c14 := Bool.eq_false_iff.mpr c14
                    subst c14
                    have H1 : ((some (([] : List Bool) : List Bool)).bind fun y259 => (if x4_1 ≤ (x3_1.length : Int) then ((some (x3_1.take (x4_1 : Int).toNat : List Bool)).bind fun y262 => (if y259.length + y262.length < 140737488355328 then ((some (y259 ++ y262 : List Bool)).bind fun y266 => (if 0 ≤ (wrap64 (x4_1 + 2)) then (if (wrap64 (x4_1 + 2)) ≤ (x3_1.length : Int) then ((some (x3_1.drop ((wrap64 (x4_1 + 2)) : Int).toNat : List Bool)).bind fun y269 => (if y266.length + y269.length < 140737488355328 then (coppicerref_Closed.l0 k1 (y266 ++ y269) 0) else (none))) else (none)) else (none))) else (none))) else (none))) = some r := by rw [if_neg (show ¬ (false = true) by decide)] at H; exact H
                    clear H
                    have H := H1
                    clear H1
                    obtain ⟨y259, hy259⟩ : ∃ y_ : List Bool, y_ = (([] : List Bool)) := ⟨_, rfl⟩
                    replace H : (if x4_1 ≤ (x3_1.length : Int) then ((some (x3_1.take (x4_1 : Int).toNat : List Bool)).bind fun y262 => (if y259.length + y262.length < 140737488355328 then ((some (y259 ++ y262 : List Bool)).bind fun y266 => (if 0 ≤ (wrap64 (x4_1 + 2)) then (if (wrap64 (x4_1 + 2)) ≤ (x3_1.length : Int) then ((some (x3_1.drop ((wrap64 (x4_1 + 2)) : Int).toNat : List Bool)).bind fun y269 => (if y266.length + y269.length < 140737488355328 then (coppicerref_Closed.l0 k1 (y266 ++ y269) 0) else (none))) else (none)) else (none))) else (none))) else (none)) = some r := by first | (rw [hy259]; with_reducible exact H) | (have H2_ := (Option.bind_some _ _).symm.trans H; rw [hy259]; with_reducible exact H2_) | (have H2_ := (Option.bind_some _ _).symm.trans H; with_reducible exact H2_) | with_reducible exact H | (rw [hy259]; exact H) | exact H
                    have Ny259 := Aside0.mk hy259
                    clear hy259
                    have c16b0 := eq_true (of_decide_eq_true (by first | (with_reducible assumption) | assumption) : 0 ≤ x4_1)
                    by_cases c17 : x4_1 ≤ (x3_1.length : Int)
                    · rw [if_pos c17] at H
                      have c17b0 := eq_true c17
                      have c17b1 : decide (x4_1 ≤ (x3_1.length : Int)) = true := decide_eq_true c17
                      clear c17
                      obtain ⟨y262, hy262⟩ : ∃ y_ : List Bool, y_ = (x3_1.take (x4_1 : Int).toNat) := ⟨_, rfl⟩
                      replace H : (if y259.length + y262.length < 140737488355328 then ((some (y259 ++ y262 : List Bool)).bind fun y266 => (if 0 ≤ (wrap64 (x4_1 + 2)) then (if (wrap64 (x4_1 + 2)) ≤ (x3_1.length : Int) then ((some (x3_1.drop ((wrap64 (x4_1 + 2)) : Int).toNat : List Bool)).bind fun y269 => (if y266.length + y269.length < 140737488355328 then (coppicerref_Closed.l0 k1 (y266 ++ y269) 0) else (none))) else (none)) else (none))) else (none)) = some r := by first | (rw [hy262]; with_reducible exact H) | (have H2_ := (Option.bind_some _ _).symm.trans H; rw [hy262]; with_reducible exact H2_) | (have H2_ := (Option.bind_some _ _).symm.trans H; with_reducible exact H2_) | with_reducible exact H | (rw [hy262]; exact H) | exact H
                      have Ny262 := Aside0.mk hy262
                      clear hy262
                      by_cases c18 : y259.length + y262.length < 140737488355328
                      · rw [if_pos c18] at H
                        have LMc18 := Aside0.mk c18
                        clear c18
                        obtain ⟨y266, hy266⟩ : ∃ y_ : List Bool, y_ = (y259 ++ y262) := ⟨_, rfl⟩
                        replace H : (if 0 ≤ (wrap64 (x4_1 + 2)) then (if (wrap64 (x4_1 + 2)) ≤ (x3_1.length : Int) then ((some (x3_1.drop ((wrap64 (x4_1 + 2)) : Int).toNat : List Bool)).bind fun y269 => (if y266.length + y269.length < 140737488355328 then (coppicerref_Closed.l0 k1 (y266 ++ y269) 0) else (none))) else (none)) else (none)) = some r := by first | (rw [hy266]; with_reducible exact H) | (have H2_ := (Option.bind_some _ _).symm.trans H; rw [hy266]; with_reducible exact H2_) | (have H2_ := (Option.bind_some _ _).symm.trans H; with_reducible exact H2_) | with_reducible exact H | (rw [hy266]; exact H) | exact H
                        have Ny266 := Aside0.mk hy266
                        clear hy266
                        obtain ⟨ji19, hji19⟩ : ∃ j_ : Int, (wrap64 (x4_1 + 2)) = j_ := ⟨_, rfl⟩
                        replace H : (if 0 ≤ (ji19) then (if (ji19) ≤ (x3_1.length : Int) then ((some (x3_1.drop ((ji19) : Int).toNat : List Bool)).bind fun y269 => (if y266.length + y269.length < 140737488355328 then (coppicerref_Closed.l0 k1 (y266 ++ y269) 0) else (none))) else (none)) else (none)) = some r := by first | (rw [hji19] at H; exact H) | (simp only [hji19] at H ⊢; exact H)
                        have hji19w : (IntKind.i64.wrap (x4_1 + 2)) = ji19 := (i64_w _).trans hji19
                        by_cases c20 : 0 ≤ (ji19)
                        · rw [if_pos c20] at H
                          have c20b0 := eq_true c20
                          have c20b1 : decide (0 ≤ (ji19)) = true := decide_eq_true c20
                          clear c20
                          by_cases c21 : (ji19) ≤ (x3_1.length : Int)
                          · rw [if_pos c21] at H
                            have c21b0 := eq_true c21
                            have c21b1 : decide ((ji19) ≤ (x3_1.length : Int)) = true := decide_eq_true c21
                            clear c21
                            obtain ⟨y269, hy269⟩ : ∃ y_ : List Bool, y_ = (x3_1.drop ((ji19) : Int).toNat) := ⟨_, rfl⟩
                            replace H : (if y266.length + y269.length < 140737488355328 then (coppicerref_Closed.l0 k1 (y266 ++ y269) 0) else (none)) = some r := by first | (rw [hy269]; with_reducible exact H) | (have H2_ := (Option.bind_some _ _).symm.trans H; rw [hy269]; with_reducible exact H2_) | (have H2_ := (Option.bind_some _ _).symm.trans H; with_reducible exact H2_) | with_reducible exact H | (rw [hy269]; exact H) | exact H
                            have Ny269 := Aside0.mk hy269
                            clear hy269
                            by_cases c22 : y266.length + y269.length < 140737488355328
                            · rw [if_pos c22] at H
                              have LMc22 := Aside0.mk c22
                              clear c22
                              obtain ⟨y273, hy273⟩ : ∃ y_ : List Bool, y_ = (y266 ++ y269) := ⟨_, rfl⟩
                              replace H : (coppicerref_Closed.l0 k1 y273 0) = some r := by first | (rw [hy273]; with_reducible exact H) | (have H2_ := (Option.bind_some _ _).symm.trans H; rw [hy273]; with_reducible exact H2_) | (have H2_ := (Option.bind_some _ _).symm.trans H; with_reducible exact H2_) | with_reducible exact H | (rw [hy273]; exact H) | exact H
                              have Ny273 := Aside0.mk hy273
                              clear hy273
                              have H' := Aside0.mk H
                              clear H
                              obtain ⟨Ao23, co23, eo23⟩ := Kd.R_slice HO_3.out
                              subst eo23
                              have p257 : 0 ≤ (x4_1 : Int) := of_decide_eq_true (by first | (with_reducible assumption) | assumption)
                              have q257 : x4_1 < (x3_1.length : Int) := of_decide_eq_true (by first | (with_reducible assumption) | assumption)
                              obtain ⟨ad257, e257, hx257_0⟩ := Kd.at_bool (Kd.R_reads' HO_3.out).2.2 x4_1 p257 q257
                              (try rw [← Nbq9.out] at hx257_0)
                              (try rw [← Nbq13.out] at hx257_0)
                              cases e257
                              replace p257 := eq_true p257
                              replace q257 := eq_true q257
                              have p258 : 0 ≤ ((ji11) : Int) := of_decide_eq_true (by first | (with_reducible assumption) | assumption)
                              have q258 : (ji11) < (x3_1.length : Int) := of_decide_eq_true (by first | (with_reducible assumption) | assumption)
                              obtain ⟨ad258, e258, hx258_0⟩ := Kd.at_bool (Kd.R_reads' HO_3.out).2.2 (ji11) p258 q258
                              (try rw [← Nbq9.out] at hx258_0)
                              (try rw [← Nbq13.out] at hx258_0)
                              obtain rfl : ad257 = ad258 := (by injection e258)
                              replace p258 := eq_true p258
                              replace q258 := eq_true q258
                              try go_wp2
                              have n0_ := Aside0.mk (Kd.R_drew HO_3.out)
                              have n1_ := Aside0.mk (below_drew1 HB.out)
                              clear HO_3
                              clear HB
                              have HO_3 := n0_
                              have HB := n1_
                              clear n0_ n1_
                              have q25 : (x4_1 : Int) ≤ ((x3_1.length : Int) : Int) := of_decide_eq_true (by first | (with_reducible assumption) | assumption)
                              obtain ⟨i025, hi025, _, hsz25, _⟩ := info_parts info4
                              have hroom25 : x3_1.length ≤ co23 := (Kd.R_reads' HO_3.out).2.1
                              have hC25 : Kd.C Kd.bool _ (some ad257) x3_1.length x3_1 := (Kd.R_reads' HO_3.out).2.2
                              have hcut25 := cut_to (P := Try.prog) 49 4 .i64 Try.underlying49 hi025 (some ad257) x3_1.length co23 x4_1 (of_decide_eq_true (by first | (with_reducible assumption) | assumption)) q25 hroom25
                              have hr25 := Kd.C_take (m := (x4_1 : Int).toNat) hC25 (by omega)
                              have hy25 : y262.length = (x4_1 : Int).toNat := (by rw [Ny262.out, List.length_take]; omega)
                              rw [← Ny262.out] at hr25
                              rw [← hy25] at hcut25
                              have HR265 := Aside0.mk hr25
                              have HC265 := Aside0.mk (show y262.length ≤ co23 from by omega)
                              clear hr25 hC25 hroom25 hi025 hsz25
                              have KY25 := Aside0.mk hy25
                              clear hy25
                              have KL25 := Aside0.mk (show (x4_1 : Int).toNat ≤ x3_1.length from by omega)
                              replace q25 := eq_true q25
                              have q26 : ((ji19) : Int) ≤ ((x3_1.length : Int) : Int) := of_decide_eq_true (by first | (with_reducible assumption) | assumption)
                              obtain ⟨i026, hi026, _, hsz26, _⟩ := info_parts info4
                              have hroom26 : x3_1.length ≤ co23 := (Kd.R_reads' HO_3.out).2.1
                              have hC26 : Kd.C Kd.bool _ (some ad257) x3_1.length x3_1 := (Kd.R_reads' HO_3.out).2.2
                              have q026 : (0 : Int) ≤ ((ji19) : Int) := of_decide_eq_true (by first | (with_reducible assumption) | assumption)
                              have hcut26 := cut_from (P := Try.prog) 49 4 .i64 Try.underlying49 hi026 1 hsz26 (some ad257) x3_1.length co23 (ji19) q026 q26
                              have hr26 := Kd.C_drop (m := ((ji19) : Int).toNat) (c := co23) hC26 (by omega) hroom26
                              obtain ⟨A26, hA26⟩ : ∃ A1, A1 = (if co23 = ((ji19) : Int).toNat then (some ad257) else ((some ad257) : Option Addr).map (·.add (((ji19) : Int).toNat * 1))) := ⟨_, rfl⟩
                              obtain ⟨c26, hc26⟩ : ∃ c1, c1 = co23 - ((ji19) : Int).toNat := ⟨_, rfl⟩
                              have hy26 : y269.length = x3_1.length - ((ji19) : Int).toNat := (by rw [Ny269.out, List.length_drop] <;> omega)
                              rw [show (x3_1).drop ((ji19) : Int).toNat = y269 from Ny269.out.symm] at hr26
                              replace hr26 : Kd.C Kd.bool _ A26 y269.length y269 := (by rw [hA26]; exact hr26)
                              rw [← hy26, ← hA26, ← hc26] at hcut26
                              have HR272 := Aside0.mk hr26
                              have HC272 := Aside0.mk (show y269.length ≤ c26 from by rw [hy26, hc26]; exact Nat.sub_le_sub_right hroom26 _)
                              clear hr26 hC26 hroom26 hi026 hsz26 hc26
                              have KY26 := Aside0.mk hy26
                              have KA26 := Aside0.mk hA26
                              clear hy26 hA26
                              have KL26 := Aside0.mk (show ((ji19) : Int).toNat ≤ x3_1.length from by omega)
                              replace q26 := eq_true q26
                              refine start_ (n := 11) (S := fun w' => True) (ds := []) #[false, false, false, false, false, false, false, false, false, false, false] (by kernel_rfl) rfl rfl trivial (fun hHeld => ?_); refine with_tabW coppicerref_Closed.tab5 coppicerref_Closed.bits5 (fun HT_ HW_ => ?_)
                              generalize wr.drew = w24 at HO_3 HB HR265 HR272 hHeld ⊢
                              refine pure_ (i := 1) (N := some 26) (v := ?_) (a' := ?_) #[false, true, false, false, false, false, false, false, false, false, false] rfl rfl (any_of HT_.out (by kernel_rfl)) (fun _ _ _ h => h) (Or.inl ⟨by rfl, ?_⟩) ?_ ?_
                              rotate_left
                              · intro w'
                                go_simp
                                with_reducible rfl
                              rotate_left
                              · simp only [Act.put, List.setIfInBounds_toArray, List.set_cons_zero, List.set_cons_succ, i64_w, i32_w]
                                rfl
                              refine pure_ (i := 2) (N := some 27) (v := ?_) (a' := ?_) #[false, true, true, false, false, false, false, false, false, false, false] rfl rfl (any_of HT_.out (by kernel_rfl)) (fun _ _ _ h => h) (Or.inl ⟨by rfl, ?_⟩) ?_ ?_
                              rotate_left
                              · intro w'
                                go_simp
                                with_reducible rfl
                              rotate_left
                              · simp only [Act.put, List.setIfInBounds_toArray, List.set_cons_zero, List.set_cons_succ, i64_w, i32_w]
                                rfl
                              refine pure_ (i := 3) (N := some 28) (v := ?_) (a' := ?_) #[false, true, true, true, false, false, false, false, false, false, false] rfl rfl (any_of HT_.out (by kernel_rfl)) (fun _ _ _ h => h) (Or.inl ⟨by rfl, ?_⟩) ?_ ?_
                              rotate_left
                              · intro w'
                                go_simp
                                with_reducible rfl
                              rotate_left
                              · simp only [Act.put, List.setIfInBounds_toArray, List.set_cons_zero, List.set_cons_succ, i64_w, i32_w]
                                rfl
                              refine pure_ (i := 5) (N := some 30) (v := ?_) (a' := ?_) #[false, true, true, true, false, true, false, false, false, false, false] rfl rfl (any_of HT_.out (by kernel_rfl)) (fun _ _ _ h => h) (Or.inl ⟨by rfl, ?_⟩) ?_ ?_
                              rotate_left
                              · intro w'
                                go_simp
                                with_reducible rfl
                              rotate_left
                              · simp only [Act.put, List.setIfInBounds_toArray, List.set_cons_zero, List.set_cons_succ, i64_w, i32_w]
                                rfl
                              refine pure_ (i := 6) (N := some 31) (v := ?_) (a' := ?_) #[false, true, true, true, false, true, true, false, false, false, false] rfl rfl (any_of HT_.out (by kernel_rfl)) (fun _ _ _ h => h) (Or.inl ⟨by rfl, ?_⟩) ?_ ?_
                              rotate_left
                              · intro w'
                                go_simp
                                with_reducible rfl
                              rotate_left
                              · simp only [Act.put, List.setIfInBounds_toArray, List.set_cons_zero, List.set_cons_succ, i64_w, i32_w]
                                rfl
                              refine pure_ (i := 7) (N := some 32) (v := ?_) (a' := ?_) #[false, true, true, true, false, true, true, true, false, false, false] rfl rfl (any_of HT_.out (by kernel_rfl)) (fun _ _ _ h => h) (Or.inl ⟨by rfl, ?_⟩) ?_ ?_
                              rotate_left
                              · intro w'
                                go_simp
                                with_reducible rfl
                              rotate_left
                              · simp only [Act.put, List.setIfInBounds_toArray, List.set_cons_zero, List.set_cons_succ, i64_w, i32_w]
                                rfl
                              refine pure_ (i := 8) (N := some 33) (v := ?_) (a' := ?_) #[false, true, true, true, false, true, true, true, true, false, false] rfl rfl (any_of HT_.out (by kernel_rfl)) (fun _ _ _ h => h) (Or.inl ⟨by rfl, ?_⟩) ?_ ?_
                              rotate_left
                              · intro w'
                                go_simp
                                with_reducible rfl
                              rotate_left
                              · simp only [Act.put, List.setIfInBounds_toArray, List.set_cons_zero, List.set_cons_succ, i64_w, i32_w]
                                rfl
                              refine one_ (i := 0) (N := some 25) #[true, true, true, true, false, true, true, true, true, false, false] rfl rfl (one_of HT_.out (by kernel_rfl)) (by decide) (fun K hK => ?_)
                              refine Kd.R_lit_step Kd.bool _ 4 ?hg (N := 25) ?hd (xs := ([] : List Bool)) (inner := []) (ok := fun _ => True) (okp := fun _ => True) ?hr ?hp (fun _ hk => hk) trivial (Below.refl _ _) (Nat.le_refl _) (by simp) ?_; (case hd => rfl); (case hg => rfl); (case hr => first | (go_simp; done) | (go_simp; rfl)); (case hp => exact (Reps.none _ _))
                              intro v260 w27 ho28 hb hg_ hnew_
                              clear hg_ hnew_
                              (first | rw [← Ny259.out] at ho28 | (simp only [Int.reduceToNat] at ho28; rw [← Ny259.out] at ho28))
                              have n0_ := Aside0.mk (Kd.R_elder' (by (with_reducible repeat (first | apply Kd.R_alloc | apply Kd.R_drewN | apply Kd.R_drew)); exact HO_3.out) (Kd.R_base ho28) hb)
                              have n1_ := Aside0.mk (Kd.R_lower (Kd.R_new' ho28 (Kd.R_lt (by (with_reducible repeat (first | apply Kd.R_alloc | apply Kd.R_drewN | apply Kd.R_drew)); exact HO_3.out))) (below_size (by repeat (first | (with_reducible first | exact HB.out | apply below_alloc | apply pw_below_drewN | apply below_drew1) | exact HB.out))))
                              have n2_ := Aside0.mk (Kd.C_below (by repeat (first | (with_reducible exact HR265.out) | (with_reducible refine Kd.C_alloc ?_ _) | (with_reducible refine Kd.C_drewN ?_ _) | (with_reducible refine Kd.C_drew ?_) | exact HR265.out)) hb)
                              have n3_ := Aside0.mk (Kd.C_below (by repeat (first | (with_reducible exact HR272.out) | (with_reducible refine Kd.C_alloc ?_ _) | (with_reducible refine Kd.C_drewN ?_ _) | (with_reducible refine Kd.C_drew ?_) | exact HR272.out)) hb)
                              have n4_ := Aside0.mk (below_step (by repeat (first | (with_reducible first | exact HB.out | apply below_alloc | apply pw_below_drewN | apply below_drew1) | exact HB.out)) hb)
                              clear HO_3
                              clear HR265
                              clear HR272
                              clear HB
                              have HO_3 := n0_
                              have HO261 := n1_
                              have HR265 := n2_
                              have HR272 := n3_
                              have HB := n4_
                              clear n0_ n1_ n2_ n3_ n4_
                              clear hb ho28
                              refine hK.out _ _ trivial (fun hHeld => ?_)
                              clear hK K
                              refine norm_ (a' := ?_) ?_ ?_
                              rotate_left
                              · show Act.put _ (some 25) _ = _
                                simp only [Act.put, List.setIfInBounds_toArray, List.set_cons_zero, List.set_cons_succ, i64_w, i32_w]
                                rfl
                              refine one_ (i := 4) (N := some 29) #[true, true, true, true, true, true, true, true, true, false, false] rfl rfl (one_of HT_.out (by kernel_rfl)) (by decide) (fun K hK => ?_)
                              refine Kd.R_append_rows_step Kd.bool (w0 := w) w.heap.size (by rfl) (.tmp 25) (.tmp 28) 49 4 (.bool false) 1 rfl Try.underlying49 info4 rfl (by decide) (by omega) v260 y259 y262 _ _ _ (fun k_ => some k_ ≠ (.slice (some ad257) x3_1.length co23 : Value).ownBlock) (fun _ => False) rfl rfl ?aO ?aR (fun _ _ h => h) (fun _ h => h.elim) ?aF ?aB ?aS ?aL ?_
                              (case aR => repeat (first | exact (by repeat (first | (with_reducible exact HR265.out) | (with_reducible refine Kd.C_alloc ?_ _) | (with_reducible refine Kd.C_drewN ?_ _) | (with_reducible refine Kd.C_drew ?_) | exact HR265.out)) | (with_reducible refine Kd.C_alloc ?_ _) | (with_reducible refine Kd.C_drewN ?_ _) | (with_reducible refine Kd.C_drew ?_)))
                              (case aB => exact (by repeat (first | (with_reducible first | exact HB.out | apply below_alloc | apply pw_below_drewN | apply below_drew1) | exact HB.out)))
                              (case aF => exact (fun k_ hk => Kd.fresh' (Kd.R_lt (by (with_reducible repeat (first | apply Kd.R_alloc | apply Kd.R_drewN | apply Kd.R_drew)); exact HO_3.out)) k_ hk))
                              (case aO => exact (by (with_reducible repeat (first | apply Kd.R_alloc | apply Kd.R_drewN | apply Kd.R_drew)); exact Kd.R_mono HO261.out (fun _ hk => hk.2)))
                              (case aS => exact (below_size (by repeat (first | (with_reducible first | exact HB.out | apply below_alloc | apply pw_below_drewN | apply below_drew1) | exact HB.out))))
                              (case aL => have := LMc18.out; omega)
                              intro v267 w29 ho hb hg hat
                              rw [← Ny266.out] at ho
                              have n0_ := Aside0.mk (Kd.R_after (ok := (fun _ => True)) (by (with_reducible repeat (first | apply Kd.R_alloc | apply Kd.R_drewN | apply Kd.R_drew)); exact HO_3.out) hg hat)
                              have n1_ := Aside0.mk (hb)
                              have n2_ := Aside0.mk ((show Kd.C Kd.bool w29 (some ad257) y262.length y262 from by rw [Ny262.out]; exact Kd.C_take (m := (x4_1 : Int).toNat) ((Kd.R_reads' (Kd.R_after (ok := (fun _ => True)) (by (with_reducible repeat (first | apply Kd.R_alloc | apply Kd.R_drewN | apply Kd.R_drew)); exact HO_3.out) hg hat)).2.2) KL25.out))
                              have n3_ := Aside0.mk ((show Kd.C Kd.bool w29 A26 y269.length y269 from by rw [Ny269.out, KA26.out]; exact Kd.C_drop (m := ((ji19) : Int).toNat) (c := co23) ((Kd.R_reads' (Kd.R_after (ok := (fun _ => True)) (by (with_reducible repeat (first | apply Kd.R_alloc | apply Kd.R_drewN | apply Kd.R_drew)); exact HO_3.out) hg hat)).2.2) KL26.out ((Kd.R_reads' (Kd.R_after (ok := (fun _ => True)) (by (with_reducible repeat (first | apply Kd.R_alloc | apply Kd.R_drewN | apply Kd.R_drew)); exact HO_3.out) hg hat)).2.1)))
                              have n4_ := Aside0.mk (ho)
                              clear HO_3
                              clear HB
                              clear HR265
                              clear HR272
                              clear HO261
                              have HO_3 := n0_
                              have HB := n1_
                              have HR265 := n2_
                              have HR272 := n3_
                              have HO268 := n4_
                              clear n0_ n1_ n2_ n3_ n4_
                              clear ho hb hg hat
                              refine hK.out _ _ trivial (fun hHeld => ?_)
                              clear hK K
                              refine norm_ (a' := ?_) ?_ ?_
                              rotate_left
                              · show Act.put _ (some 29) _ = _
                                simp only [Act.put, List.setIfInBounds_toArray, List.set_cons_zero, List.set_cons_succ, i64_w, i32_w]
                                rfl
                              refine one_ (i := 9) (N := some 34) #[true, true, true, true, true, true, true, true, true, true, false] rfl rfl (one_of HT_.out (by kernel_rfl)) (by decide) (fun K hK => ?_)
                              refine Kd.R_append_rows_step Kd.bool (w0 := w) w.heap.size (by rfl) (.tmp 29) (.tmp 33) 49 4 (.bool false) 1 rfl Try.underlying49 info4 rfl (by decide) (by omega) v267 y266 y269 _ _ _ (fun k_ => some k_ ≠ (.slice (some ad257) x3_1.length co23 : Value).ownBlock) (fun _ => False) rfl rfl ?aO ?aR (fun _ _ h => h) (fun _ h => h.elim) ?aF ?aB ?aS ?aL ?_
                              (case aR => repeat (first | exact (by repeat (first | (with_reducible exact HR272.out) | (with_reducible refine Kd.C_alloc ?_ _) | (with_reducible refine Kd.C_drewN ?_ _) | (with_reducible refine Kd.C_drew ?_) | exact HR272.out)) | (with_reducible refine Kd.C_alloc ?_ _) | (with_reducible refine Kd.C_drewN ?_ _) | (with_reducible refine Kd.C_drew ?_)))
                              (case aB => exact (by repeat (first | (with_reducible first | exact HB.out | apply below_alloc | apply pw_below_drewN | apply below_drew1) | exact HB.out)))
                              (case aF => exact (fun k_ hk => Kd.fresh' (Kd.R_lt (by (with_reducible repeat (first | apply Kd.R_alloc | apply Kd.R_drewN | apply Kd.R_drew)); exact HO_3.out)) k_ hk))
                              (case aO => exact (by (with_reducible repeat (first | apply Kd.R_alloc | apply Kd.R_drewN | apply Kd.R_drew)); exact HO268.out))
                              (case aS => exact (below_size (by repeat (first | (with_reducible first | exact HB.out | apply below_alloc | apply pw_below_drewN | apply below_drew1) | exact HB.out))))
                              (case aL => have := LMc22.out; omega)
                              intro v274 w30 ho hb hg hat
                              rw [← Ny273.out] at ho
                              have n0_ := Aside0.mk (Kd.R_after (ok := (fun _ => True)) (by (with_reducible repeat (first | apply Kd.R_alloc | apply Kd.R_drewN | apply Kd.R_drew)); exact HO_3.out) hg hat)
                              have n1_ := Aside0.mk (hb)
                              have n2_ := Aside0.mk ((show Kd.C Kd.bool w30 (some ad257) y262.length y262 from by rw [Ny262.out]; exact Kd.C_take (m := (x4_1 : Int).toNat) ((Kd.R_reads' (Kd.R_after (ok := (fun _ => True)) (by (with_reducible repeat (first | apply Kd.R_alloc | apply Kd.R_drewN | apply Kd.R_drew)); exact HO_3.out) hg hat)).2.2) KL25.out))
                              have n3_ := Aside0.mk ((show Kd.C Kd.bool w30 A26 y269.length y269 from by rw [Ny269.out, KA26.out]; exact Kd.C_drop (m := ((ji19) : Int).toNat) (c := co23) ((Kd.R_reads' (Kd.R_after (ok := (fun _ => True)) (by (with_reducible repeat (first | apply Kd.R_alloc | apply Kd.R_drewN | apply Kd.R_drew)); exact HO_3.out) hg hat)).2.2) KL26.out ((Kd.R_reads' (Kd.R_after (ok := (fun _ => True)) (by (with_reducible repeat (first | apply Kd.R_alloc | apply Kd.R_drewN | apply Kd.R_drew)); exact HO_3.out) hg hat)).2.1)))
                              have n4_ := Aside0.mk (ho)
                              clear HO_3
                              clear HB
                              clear HR265
                              clear HR272
                              clear HO268
                              have HO_3 := n0_
                              have HB := n1_
                              have HR265 := n2_
                              have HR272 := n3_
                              have HO275 := n4_
                              clear n0_ n1_ n2_ n3_ n4_
                              clear ho hb hg hat
                              refine hK.out _ _ trivial (fun hHeld => ?_)
                              clear hK K
                              refine norm_ (a' := ?_) ?_ ?_
                              rotate_left
                              · show Act.put _ (some 34) _ = _
                                simp only [Act.put, List.setIfInBounds_toArray, List.set_cons_zero, List.set_cons_succ, i64_w, i32_w]
                                rfl
                              refine pure_ (i := 10) (N := some 3) (v := ?_) (a' := ?_) #[true, true, true, true, true, true, true, true, true, true, true] rfl rfl (any_of HT_.out (by kernel_rfl)) (fun _ _ _ h => h) (Or.inl ⟨by rfl, ?_⟩) ?_ ?_
                              rotate_left
                              · intro w'
                                go_simp
                                with_reducible rfl
                              rotate_left
                              · simp only [Act.put, List.setIfInBounds_toArray, List.set_cons_zero, List.set_cons_succ, i64_w, i32_w]
                                rfl
                              refine done_ (done_of HT_.out (by kernel_rfl)) ?_
                              try go_wp2
                              first | go_roundg k1 | ((simp only [← hji11, ← hji19]); go_roundg k1)
                              case measure => have := HK1.out; omega
                              case rel => exact ⟨(y273), (0), (by first | rfl | (simp; done) | (simp [*]; done)), (by first | exact H' | ((simp only [hji11, hji19]); exact H') | (have h_ := H'.out; simp only [← hji11, ← hji19] at h_ ⊢; exact ⟨h_⟩)), ⟨by have := HK1.out; omega⟩, ⟨by (with_reducible repeat (first | apply Kd.R_alloc | apply Kd.R_drewN | apply Kd.R_drew)); exact Kd.R_mono HO275.out (fun _ hk => trivial)⟩, ⟨by repeat (first | (with_reducible first | exact HB.out | apply below_alloc | apply pw_below_drewN | apply below_drew1) | exact HB.out)⟩⟩
                            · rw [if_neg c22] at H
                              exact absurd H (by simp)
                          · rw [if_neg c21] at H
                            exact absurd H (by simp)
                        · rw [if_neg c20] at H
                          exact absurd H (by simp)
                      · rw [if_neg c18] at H
                        exact absurd H (by simp)
                    · rw [if_neg c17] at H
                      exact absurd H (by simp)
                · rw [if_neg c12] at H
                  exact absurd H (by simp)
              · replace c10 := Bool.eq_false_iff.mpr c10
                subst c10
                have H1 : (coppicerref_Closed.l0 k1 x3_1 (wrap64 (x4_1 + 1))) = some r := by rw [if_neg (show ¬ (false = true) by decide)] at H; exact H
                clear H
                have H := H1
                clear H1
                have H' := Aside0.mk H
                clear H
                obtain ⟨Ao31, co31, eo31⟩ := Kd.R_slice HO_3.out
                subst eo31
                have p257 : 0 ≤ (x4_1 : Int) := of_decide_eq_true (by first | (with_reducible assumption) | assumption)
                have q257 : x4_1 < (x3_1.length : Int) := of_decide_eq_true (by first | (with_reducible assumption) | assumption)
                obtain ⟨ad257, e257, hx257_0⟩ := Kd.at_bool (Kd.R_reads' HO_3.out).2.2 x4_1 p257 q257
                (try rw [← Nbq9.out] at hx257_0)
                cases e257
                replace p257 := eq_true p257
                replace q257 := eq_true q257
                go_wp2
                go_roundg k1
                case measure => have := HK1.out; omega
                case rel => exact ⟨(x3_1), (wrap64 (x4_1 + 1)), (by first | rfl | (simp; done) | (simp [*]; done)), H', ⟨by have := HK1.out; omega⟩, ⟨by (with_reducible repeat (first | apply Kd.R_alloc | apply Kd.R_drewN | apply Kd.R_drew)); exact HO_3.out⟩, ⟨by repeat (first | (with_reducible first | exact HB.out | apply below_alloc | apply pw_below_drewN | apply below_drew1) | exact HB.out)⟩⟩
            · rw [if_neg c8] at H
              exact absurd H (by simp)
          · rw [if_neg c7] at H
            exact absurd H (by simp)
        · rw [if_neg c6] at H
          have c6b0 : decide ((wrap64 (x4_1 + 1)) < (x3_1.length : Int)) = false := decide_eq_false c6
          clear c6
          obtain rfl := Option.some.inj H
          obtain ⟨Ao32, co32, eo32⟩ := Kd.R_slice HO_3.out
          subst eo32
          go_wp2
          go_ret
          exact ⟨by first | rfl | (simp [errW_none, errW_some] <;> rfl) | (simp [*, errW_none, errW_some] <;> rfl), by repeat (first | (with_reducible first | exact HB.out | apply below_alloc | apply pw_below_drewN | apply below_drew1) | exact HB.out)⟩
  · rw [if_neg c2] at H
    exact absurd H (by simp)

end Go.Proofs.Ytbblpddbkdiagaa.GA
