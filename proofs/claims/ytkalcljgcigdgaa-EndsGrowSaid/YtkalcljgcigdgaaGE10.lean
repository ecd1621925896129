-- Written by ext.py, a program of this session.
import Derived.Test.YtkalcljgcigdgaaGE0
import Derived.Test.YtkalcljgcigdgaaGE1
import Derived.Test.YtkalcljgcigdgaaGE4
import Derived.Test.YtkalcljgcigdgaaGE9
namespace Go.Proofs.Ytkalcljgcigdgaa.GE
open Go.RowKit Go.Proofs.YtkalcljgcigdgaaW.PrintWords Go.Proofs.YtkalcljgcigdgaaW.PrintLast Go.Proofs.YtkalcljgcigdgaaW.PrintMore
attribute [local go_sem] max2_int min2_int max_two min_two max_three min_three max_four min_four cellIs_set   -- for this text's walks alone
set_option linter.unusedVariables false
set_option linter.unusedSimpArgs false

/-! ### coppicerkeep_EndsGrow: function 5 -/
def coppicerkeep_EndsGrow.l0 : Nat → List Int → List Int → Int → Int → Int → Int → Int → Int → Option (Bool)
  | 0, _, _, _, _, _, _, _, _ => none
  | k + 1, x0, x5, x6, x7, x8, x9, x10, x11 => if x11 ≤ (x5.length : Int) then (if 0 ≤ (wrap64 ((x5.length : Int) - x11)) then (if (wrap64 ((x5.length : Int) - x11)) ≤ (x5.length : Int) then ((ends_Count.f k x0 (x5.drop ((wrap64 ((x5.length : Int) - x11)) : Int).toNat)).bind fun bt194 => (if bt194.2 = 0 then (if bt194.1 > 0 then (coppicerkeep_EndsGrow.l0 k x0 x5 x6 x7 x8 x9 x11 (wrap64 (x11 + 1))) else (coppicerkeep_EndsGrow.l0 k x0 x5 x6 x7 x8 x9 x10 (wrap64 (x11 + 1)))) else (some false))) else (none)) else (none)) else (if x7 = 0 then (if x9 = 0 then (some ((wrap64 (x8 - x6)) == (wrap64 ((x5.length : Int) - x10)))) else (some false)) else (some false))
def coppicerkeep_EndsGrow.f (k : Nat) (l0 : List Int) (a1 : Int) : Option (Bool) := (some (([] : List Int) : List Int)).bind fun y172 => (if y172.length + l0.length < 140737488355328 then ((some (y172 ++ l0 : List Int)).bind fun y175 => (if y175.length < 140737488355328 then ((some (y175 ++ [a1] : List Int)).bind fun y178 => ((ends_Different.f k l0).bind fun bt181 => ((ends_Different.f k y178).bind fun bt183 => ((coppicerkeep_long.f k (([y178] : List (List Int)))).bind fun t188 => (if t188 = true then (some (bt183.2 != 0)) else (coppicerkeep_EndsGrow.l0 k l0 y178 bt181.1 bt181.2 bt183.1 bt183.2 0 1)))))) else (none))) else (none))
theorem coppicerkeep_EndsGrow.mono_l : ∀ k, (∀ y0 y1 y2 y3 y4 y5 y6 y7, LeO (coppicerkeep_EndsGrow.l0 k y0 y1 y2 y3 y4 y5 y6 y7) (coppicerkeep_EndsGrow.l0 (k + 1) y0 y1 y2 y3 y4 y5 y6 y7))
  | 0 => fun _ _ _ _ _ _ _ _ r h => by simp [coppicerkeep_EndsGrow.l0] at h
  | k + 1 => by
    have ih0 := coppicerkeep_EndsGrow.mono_l k
    · intro y0 y1 y2 y3 y4 y5 y6 y7
      unfold coppicerkeep_EndsGrow.l0
      repeat' first
      | (with_reducible exact ih0 _ _ _ _ _ _ _ _)
      | (with_reducible exact coppicerkeep_long.mono _ _)
      | (with_reducible exact ends_Count.mono _ _ _)
      | (with_reducible exact ends_Different.mono _ _)
      | (with_reducible exact LeO.refl _)
      | (with_reducible exact LeO.none _)
      | (with_reducible refine LeO.ite ?_ ?_)
      | (with_reducible refine LeO.bind ?_ (fun _ => ?_))
      | exact ih0 _ _ _ _ _ _ _ _
      | exact coppicerkeep_long.mono _ _
      | exact ends_Count.mono _ _ _
      | exact ends_Different.mono _ _
      | exact LeO.none _
      | refine LeO.ite ?_ ?_
      | refine LeO.bind ?_ (fun _ => ?_)
theorem coppicerkeep_EndsGrow.mono : ∀ a0 a1 k, LeO (coppicerkeep_EndsGrow.f k a0 a1) (coppicerkeep_EndsGrow.f (k + 1) a0 a1) := by
  intro a0 a1 k
  have ih0 := coppicerkeep_EndsGrow.mono_l k
  unfold coppicerkeep_EndsGrow.f
  repeat' first
      | (with_reducible exact ih0 _ _ _ _ _ _ _ _)
      | (with_reducible exact coppicerkeep_long.mono _ _)
      | (with_reducible exact ends_Count.mono _ _ _)
      | (with_reducible exact ends_Different.mono _ _)
      | (with_reducible exact LeO.refl _)
      | (with_reducible exact LeO.none _)
      | (with_reducible refine LeO.ite ?_ ?_)
      | (with_reducible refine LeO.bind ?_ (fun _ => ?_))
      | exact ih0 _ _ _ _ _ _ _ _
      | exact coppicerkeep_long.mono _ _
      | exact ends_Count.mono _ _ _
      | exact ends_Different.mono _ _
      | exact LeO.none _
      | refine LeO.ite ?_ ?_
      | refine LeO.bind ?_ (fun _ => ?_)
set_option maxHeartbeats 8000000 in
set_option maxRecDepth 100000 in
theorem coppicerkeep_EndsGrow.calls (k : Nat) (A0 : Option Addr) (c0 : Nat) (l0 : List Int) (a1 : Int) (r : Bool) (w : World) (hr0 : Kd.C (Kd.int .u8) w A0 l0.length l0) (hc0 : l0.length ≤ c0) (h : coppicerkeep_EndsGrow.f k l0 a1 = some r) :
    Calls Try.prog 5 #[.slice A0 l0.length c0, .int .u8 a1] w fun e w' => e = .returned (.bool r) ∧ Below w.heap.size w w' := by
  have HR0 := Aside0.mk hr0
  have HC0 := Aside0.mk hc0
  clear hr0 hc0
  have HB := Aside0.mk (Below.refl w.heap.size w)
  have H : ((some (([] : List Int) : List Int)).bind fun y172 => (if y172.length + l0.length < 140737488355328 then ((some (y172 ++ l0 : List Int)).bind fun y175 => (if y175.length < 140737488355328 then ((some (y175 ++ [a1] : List Int)).bind fun y178 => ((ends_Different.f k l0).bind fun bt181 => ((ends_Different.f k y178).bind fun bt183 => ((coppicerkeep_long.f k (([y178] : List (List Int)))).bind fun t188 => (if t188 = true then (some (bt183.2 != 0)) else (coppicerkeep_EndsGrow.l0 k l0 y178 bt181.1 bt181.2 bt183.1 bt183.2 0 1)))))) else (none))) else (none))) = some r := h
  clear h
  obtain ⟨y172, hy172⟩ : ∃ y_ : List Int, y_ = (([] : List Int)) := ⟨_, rfl⟩
  replace H : (if y172.length + l0.length < 140737488355328 then ((some (y172 ++ l0 : List Int)).bind fun y175 => (if y175.length < 140737488355328 then ((some (y175 ++ [a1] : List Int)).bind fun y178 => ((ends_Different.f k l0).bind fun bt181 => ((ends_Different.f k y178).bind fun bt183 => ((coppicerkeep_long.f k (([y178] : List (List Int)))).bind fun t188 => (if t188 = true then (some (bt183.2 != 0)) else (coppicerkeep_EndsGrow.l0 k l0 y178 bt181.1 bt181.2 bt183.1 bt183.2 0 1)))))) else (none))) else (none)) = some r := by first | (rw [hy172]; with_reducible exact H) | (have H2_ := (Option.bind_some _ _).symm.trans H; rw [hy172]; with_reducible exact H2_) | (have H2_ := (Option.bind_some _ _).symm.trans H; with_reducible exact H2_) | with_reducible exact H | (rw [hy172]; exact H) | exact H
  have Ny172 := Aside0.mk hy172
  clear hy172
  by_cases c3 : y172.length + l0.length < 140737488355328
  · rw [if_pos c3] at H
    have LMc3 := Aside0.mk c3
    clear c3
    obtain ⟨y175, hy175⟩ : ∃ y_ : List Int, y_ = (y172 ++ l0) := ⟨_, rfl⟩
    replace H : (if y175.length < 140737488355328 then ((some (y175 ++ [a1] : List Int)).bind fun y178 => ((ends_Different.f k l0).bind fun bt181 => ((ends_Different.f k y178).bind fun bt183 => ((coppicerkeep_long.f k (([y178] : List (List Int)))).bind fun t188 => (if t188 = true then (some (bt183.2 != 0)) else (coppicerkeep_EndsGrow.l0 k l0 y178 bt181.1 bt181.2 bt183.1 bt183.2 0 1)))))) else (none)) = some r := by first | (rw [hy175]; with_reducible exact H) | (have H2_ := (Option.bind_some _ _).symm.trans H; rw [hy175]; with_reducible exact H2_) | (have H2_ := (Option.bind_some _ _).symm.trans H; with_reducible exact H2_) | with_reducible exact H | (rw [hy175]; exact H) | exact H
    have Ny175 := Aside0.mk hy175
    clear hy175
    by_cases c4 : y175.length < 140737488355328
    · rw [if_pos c4] at H
      have LMc4 := Aside0.mk c4
      clear c4
      obtain ⟨y178, hy178⟩ : ∃ y_ : List Int, y_ = (y175 ++ [a1]) := ⟨_, rfl⟩
      replace H : ((ends_Different.f k l0).bind fun bt181 => ((ends_Different.f k y178).bind fun bt183 => ((coppicerkeep_long.f k (([y178] : List (List Int)))).bind fun t188 => (if t188 = true then (some (bt183.2 != 0)) else (coppicerkeep_EndsGrow.l0 k l0 y178 bt181.1 bt181.2 bt183.1 bt183.2 0 1))))) = some r := by first | (rw [hy178]; with_reducible exact H) | (have H2_ := (Option.bind_some _ _).symm.trans H; rw [hy178]; with_reducible exact H2_) | (have H2_ := (Option.bind_some _ _).symm.trans H; with_reducible exact H2_) | with_reducible exact H | (rw [hy178]; exact H) | exact H
      have Ny178 := Aside0.mk hy178
      clear hy178
      replace H := Option.bind_eq_some_iff.mp H
      obtain ⟨⟨t181, t182⟩, A50, H⟩ := H
      replace H : ((ends_Different.f k y178).bind fun bt183 => ((coppicerkeep_long.f k (([y178] : List (List Int)))).bind fun t188 => (if t188 = true then (some (bt183.2 != 0)) else (coppicerkeep_EndsGrow.l0 k l0 y178 t181 t182 bt183.1 bt183.2 0 1)))) = some r := H
      have A5 := Aside0.mk A50
      clear A50
      replace H := Option.bind_eq_some_iff.mp H
      obtain ⟨⟨t183, t184⟩, A60, H⟩ := H
      replace H : ((coppicerkeep_long.f k (([y178] : List (List Int)))).bind fun t188 => (if t188 = true then (some (t184 != 0)) else (coppicerkeep_EndsGrow.l0 k l0 y178 t181 t182 t183 t184 0 1))) = some r := H
      have A6 := Aside0.mk A60
      clear A60
      obtain ⟨y185, hy185⟩ : ∃ y_ : List (List Int), y_ = (([y178] : List (List Int))) := ⟨_, rfl⟩
      replace H : ((coppicerkeep_long.f k y185).bind fun t188 => (if t188 = true then (some (t184 != 0)) else (coppicerkeep_EndsGrow.l0 k l0 y178 t181 t182 t183 t184 0 1))) = some r := by first | (rw [hy185]; with_reducible exact H) | (have H2_ := (Option.bind_some _ _).symm.trans H; rw [hy185]; with_reducible exact H2_) | (have H2_ := (Option.bind_some _ _).symm.trans H; with_reducible exact H2_) | with_reducible exact H | (rw [hy185]; exact H) | exact H
      have Ny185 := Aside0.mk hy185
      clear hy185
      replace H := Option.bind_eq_some_iff.mp H
      obtain ⟨t188, A70, H⟩ := H
      replace H : (if t188 = true then (some (t184 != 0)) else (coppicerkeep_EndsGrow.l0 k l0 y178 t181 t182 t183 t184 0 1)) = some r := H
      have A7 := Aside0.mk A70
      clear A70
      by_cases c8 : t188 = true
      · subst c8
        have H1 : (some (t184 != 0)) = some r := by rw [if_pos rfl] at H; exact H
        clear H
        have H := H1
        clear H1
        obtain rfl := Option.some.inj H
        go_enter Try.func5, Try.ntmps5
        go_wp2_with (first | ((with_reducible refine gate_dst (N := 14) rfl ?_); (try (refine gate_guard (by rfl) ?_; dsimp only)); refine Kd.R_lit (Kd.int .u8) _ 5 ?hg (N := 14) ?hd (xs := ([] : List Int)) (inner := []) (ok := fun _ => True) (okp := fun _ => True) ?hr ?hp (fun _ hk => hk) trivial (Below.refl _ _) (Nat.le_refl _) (by simp) ?_; (case hd => rfl); (case hg => rfl); (case hr => first | (go_simp; done) | (go_simp; rfl)); (case hp => exact (Reps.none _ _)); intro v173 w9 ho10 hb hg_ hnew_; clear hg_ hnew_; (first | rw [← Ny172.out] at ho10 | (simp only [Int.reduceToNat] at ho10; rw [← Ny172.out] at ho10)); have n0_ := Aside0.mk (Kd.R_lower ho10 (below_size (by repeat (first | (with_reducible first | exact HB.out | apply below_alloc | apply pw_below_drewN | apply below_drew1) | exact HB.out)))); have n1_ := Aside0.mk (below_step (by repeat (first | (with_reducible first | exact HB.out | apply below_alloc | apply pw_below_drewN | apply below_drew1) | exact HB.out)) hb); clear HB; have HO174 := n0_; have HB := n1_; clear n0_ n1_; clear hb ho10) | ((with_reducible refine gate_builtin (b := .append) (xs := #[.tmp 14, .tmp 15]) rfl ?_); (try (refine gate_guard (by rfl) ?_; dsimp only)); at_builtin; refine Kd.R_append_rows (Kd.int .u8) (w0 := w) w.heap.size rfl (.tmp 14) (.tmp 15) 23 5 (.int .u8 0) 1 rfl Try.underlying23 info5 rfl (by decide) (by omega) v173 y172 l0 _ _ _ (fun _ => True) (fun _ => False) rfl rfl ?aO ?aR (fun _ _ h => h) (fun _ h => h.elim) ?aF ?aB ?aS ?aL ?_; (case aR => repeat (first | exact (Kd.C_below HR0.out HB.out) | (with_reducible refine Kd.C_alloc ?_ _) | (with_reducible refine Kd.C_drewN ?_ _) | (with_reducible refine Kd.C_drew ?_))); (case aB => exact (by repeat (first | (with_reducible first | exact HB.out | apply below_alloc | apply pw_below_drewN | apply below_drew1) | exact HB.out))); (case aF => exact (fun _ _ => trivial)); (case aO => exact (by (with_reducible repeat (first | apply Kd.R_alloc | apply Kd.R_drewN | apply Kd.R_drew)); exact HO174.out)); (case aS => exact (below_size (by repeat (first | (with_reducible first | exact HB.out | apply below_alloc | apply pw_below_drewN | apply below_drew1) | exact HB.out)))); (case aL => have := LMc3.out; omega); intro v176 w11 ho hb hg hat; rw [← Ny175.out] at ho; have n0_ := Aside0.mk (hb); have n1_ := Aside0.mk (ho); clear HB; clear HO174; have HB := n0_; have HO177 := n1_; clear n0_ n1_; clear ho hb hg hat) | ((with_reducible refine gate_builtin (b := .append) (xs := #[.tmp 16, .tmp 18]) rfl ?_); (try (refine gate_guard (by rfl) ?_; dsimp only)); at_builtin; refine Kd.R_append (Kd.int .u8) (w0 := w) w.heap.size rfl (.tmp 16) (.tmp 18) 23 5 (.int .u8 0) 1 rfl Try.underlying23 info5 rfl (by decide) (by omega) v176 y175 a1 [.int .u8 a1] (fun _ => True) (fun _ => False) rfl rfl ?aP (fun _ hk => hk.elim) ?aF ?aO ?aB ?aS ?aL ?_; (case aP => exact rfl); (case aB => exact (by repeat (first | (with_reducible first | exact HB.out | apply below_alloc | apply pw_below_drewN | apply below_drew1) | exact HB.out))); (case aF => exact (fun _ _ => trivial)); (case aO => exact (by (with_reducible repeat (first | apply Kd.R_alloc | apply Kd.R_drewN | apply Kd.R_drew)); exact HO177.out)); (case aS => exact (below_size (by repeat (first | (with_reducible first | exact HB.out | apply below_alloc | apply pw_below_drewN | apply below_drew1) | exact HB.out)))); (case aL => have := LMc4.out; omega); intro v179 w12 ho hb hg hat; rw [← Ny178.out] at ho; have n0_ := Aside0.mk (hb); have n1_ := Aside0.mk (ho); clear HB; clear HO177; have HB := n0_; have HO180 := n1_; clear n0_ n1_; clear ho hb hg hat) | ((with_reducible refine gate_callee (f := 18) rfl ?_); refine goesL_ (some 22) rfl rfl Try.func18 (by kernel_rfl) rfl #[.slice A0 l0.length c0] rfl (by (try simp only [List.map_toArray, List.map_cons, List.map_nil]); first | done | rfl | (simp only [List.length_drop, List.length_take]; rfl)) ?_; (with_reducible refine (ends_Different.calls k _ _ l0 t181 t182 _ ?side1 ?side2 A5.out).mono ?_); (case side1 => repeat (first | exact (Kd.C_below HR0.out HB.out) | (with_reducible refine Kd.C_alloc ?_ _) | (with_reducible refine Kd.C_drewN ?_ _) | (with_reducible refine Kd.C_drew ?_))); (case side2 => exact HC0.out); rintro e w13 ⟨rfl, hb⟩; refine ⟨_, rfl, ?_⟩; have n0_ := Aside0.mk (Kd.R_below (by (with_reducible repeat (first | apply Kd.R_alloc | apply Kd.R_drewN | apply Kd.R_drew)); exact HO180.out) hb); have n1_ := Aside0.mk (below_step (by repeat (first | (with_reducible first | exact HB.out | apply below_alloc | apply pw_below_drewN | apply below_drew1) | exact HB.out)) hb); clear HO180; clear HB; have HO180 := n0_; have HB := n1_; clear n0_ n1_; (try clear hb); (try clear hb2); (try clear hk); (try clear hi); obtain ⟨Ao14, co14, eo14⟩ := Kd.R_slice HO180.out; subst eo14) | ((with_reducible refine gate_callee (f := 18) rfl ?_); refine goesL_ (some 27) rfl rfl Try.func18 (by kernel_rfl) rfl #[.slice Ao14 y178.length co14] rfl (by (try simp only [List.map_toArray, List.map_cons, List.map_nil]); first | done | rfl | (simp only [List.length_drop, List.length_take]; rfl)) ?_; (with_reducible refine (ends_Different.calls k _ _ y178 t183 t184 _ ?side1 ?side2 A6.out).mono ?_); (case side1 => repeat (first | exact (Kd.R_reads' HO180.out).2.2 | (with_reducible refine Kd.C_alloc ?_ _) | (with_reducible refine Kd.C_drewN ?_ _) | (with_reducible refine Kd.C_drew ?_))); (case side2 => exact (Kd.R_reads' HO180.out).2.1); rintro e w15 ⟨rfl, hb⟩; refine ⟨_, rfl, ?_⟩; have n0_ := Aside0.mk (Kd.R_below (by (with_reducible repeat (first | apply Kd.R_alloc | apply Kd.R_drewN | apply Kd.R_drew)); exact HO180.out) hb); have n1_ := Aside0.mk (below_step (by repeat (first | (with_reducible first | exact HB.out | apply below_alloc | apply pw_below_drewN | apply below_drew1) | exact HB.out)) hb); clear HO180; clear HB; have HO180 := n0_; have HB := n1_; clear n0_ n1_; (try clear hb); (try clear hb2); (try clear hk); (try clear hi)) | ((with_reducible refine gate_dst (N := 31) rfl ?_); (try (refine gate_guard (by rfl) ?_; dsimp only)); refine Kd.N_lit (Kd.slice 5 (Kd.int .u8)) _ 23 ?hg (N' := 31) ?hd (xs := ([y178] : List (List Int))) (inner := [.slice Ao14 y178.length co14]) (ok := (fun _ => True)) (okp := (fun _ => True)) ?hr ?hp (fun _ hk => hk) ((show ∀ k_, w15.heap.size ≤ k_ → (fun _ => True) k_ from fun k_ hk => trivial) _ (Nat.le_refl _)) (Below.refl _ _) (Nat.le_refl _) (by simp) ?_; (case hd => rfl); (case hg => rfl); (case hr => first | (go_simp; done) | (go_simp; rfl)); (case hp => first | exact (Reps.one (show Kd.FK (Kd.slice 5 (Kd.int .u8)) _ _ y178 [.slice Ao14 y178.length co14] from (Kd.FK_slice_mk (Kd.R_reads' (Kd.R_mono (ok' := (fun _ => True)) (HO180.out) (fun k_ hk => trivial))).2.1 (Kd.R_F (Kd.R_mono (ok' := (fun _ => True)) (HO180.out) (fun k_ hk => trivial))))) (Reps.none _ _)) | exact (Reps.one (show Kd.FK (Kd.slice 5 (Kd.int .u8)) _ _ y178 [.slice Ao14 y178.length co14] from (Kd.FK_slice_mk (Kd.R_reads' (Kd.R_mono (ok' := (fun _ => True)) (HO180.out) (fun k_ hk => trivial))).2.1 (Kd.R_F (Kd.R_mono (ok' := (fun _ => True)) (HO180.out) (fun k_ hk => trivial))))) (Reps.none _ _))); intro v186 w16 ho17 hb hg_ hnew_; clear hg_ hnew_; (first | rw [← Ny185.out] at ho17 | (simp only [Int.reduceToNat] at ho17; rw [← Ny185.out] at ho17)); have n0_ := Aside0.mk (Kd.N_lower ho17 (below_size (by repeat (first | (with_reducible first | exact HB.out | apply below_alloc | apply pw_below_drewN | apply below_drew1) | exact HB.out)))); have n1_ := Aside0.mk (below_step (by repeat (first | (with_reducible first | exact HB.out | apply below_alloc | apply pw_below_drewN | apply below_drew1) | exact HB.out)) hb); clear HB; clear HO180; have HO187 := n0_; have HB := n1_; clear n0_ n1_; clear hb ho17; obtain ⟨Ao18, co18, eo18⟩ := Kd.N_slice HO187.out; subst eo18) | ((with_reducible refine gate_callee (f := 19) rfl ?_); refine goesL_ (some 32) rfl rfl Try.func19 (by kernel_rfl) rfl #[.slice Ao18 y185.length co18] rfl (by (try simp only [List.map_toArray, List.map_cons, List.map_nil]); first | done | rfl | (simp only [List.length_drop, List.length_take]; rfl)) ?_; (with_reducible refine (coppicerkeep_long.calls k _ _ y185 true _ ?side1 ?side2 A7.out).mono ?_); (case side1 => repeat (first | exact (Kd.N_reads' HO187.out).2.2 | (with_reducible refine Kd.C_alloc ?_ _) | (with_reducible refine Kd.C_drewN ?_ _) | (with_reducible refine Kd.C_drew ?_))); (case side2 => exact (Kd.N_reads' HO187.out).2.1); rintro e w' ⟨rfl, ⟨nd, rfl⟩⟩; refine ⟨_, rfl, ?_⟩))
        go_ret
        exact ⟨by first | rfl | (simp [errW_none, errW_some] <;> rfl) | (simp [*, errW_none, errW_some] <;> rfl), by repeat (first | (with_reducible first | exact HB.out | apply below_alloc | apply pw_below_drewN | apply below_drew1) | exact HB.out)⟩
      · replace c8 := Bool.eq_false_iff.mpr c8
        subst c8
        have H1 : (coppicerkeep_EndsGrow.l0 k l0 y178 t181 t182 t183 t184 0 1) = some r := by rw [if_neg (show ¬ (false = true) by decide)] at H; exact H
        clear H
        have H := H1
        clear H1
        have H' := Aside0.mk H
        clear H
        go_enter Try.func5, Try.ntmps5
        go_wp2_with (first | ((with_reducible refine gate_dst (N := 14) rfl ?_); (try (refine gate_guard (by rfl) ?_; dsimp only)); refine Kd.R_lit (Kd.int .u8) _ 5 ?hg (N := 14) ?hd (xs := ([] : List Int)) (inner := []) (ok := fun _ => True) (okp := fun _ => True) ?hr ?hp (fun _ hk => hk) trivial (Below.refl _ _) (Nat.le_refl _) (by simp) ?_; (case hd => rfl); (case hg => rfl); (case hr => first | (go_simp; done) | (go_simp; rfl)); (case hp => exact (Reps.none _ _)); intro v173 w19 ho20 hb hg_ hnew_; clear hg_ hnew_; (first | rw [← Ny172.out] at ho20 | (simp only [Int.reduceToNat] at ho20; rw [← Ny172.out] at ho20)); have n0_ := Aside0.mk (Kd.R_lower ho20 (below_size (by repeat (first | (with_reducible first | exact HB.out | apply below_alloc | apply pw_below_drewN | apply below_drew1) | exact HB.out)))); have n1_ := Aside0.mk (below_step (by repeat (first | (with_reducible first | exact HB.out | apply below_alloc | apply pw_below_drewN | apply below_drew1) | exact HB.out)) hb); clear HB; have HO174 := n0_; have HB := n1_; clear n0_ n1_; clear hb ho20) | ((with_reducible refine gate_builtin (b := .append) (xs := #[.tmp 14, .tmp 15]) rfl ?_); (try (refine gate_guard (by rfl) ?_; dsimp only)); at_builtin; refine Kd.R_append_rows (Kd.int .u8) (w0 := w) w.heap.size rfl (.tmp 14) (.tmp 15) 23 5 (.int .u8 0) 1 rfl Try.underlying23 info5 rfl (by decide) (by omega) v173 y172 l0 _ _ _ (fun _ => True) (fun _ => False) rfl rfl ?aO ?aR (fun _ _ h => h) (fun _ h => h.elim) ?aF ?aB ?aS ?aL ?_; (case aR => repeat (first | exact (Kd.C_below HR0.out HB.out) | (with_reducible refine Kd.C_alloc ?_ _) | (with_reducible refine Kd.C_drewN ?_ _) | (with_reducible refine Kd.C_drew ?_))); (case aB => exact (by repeat (first | (with_reducible first | exact HB.out | apply below_alloc | apply pw_below_drewN | apply below_drew1) | exact HB.out))); (case aF => exact (fun _ _ => trivial)); (case aO => exact (by (with_reducible repeat (first | apply Kd.R_alloc | apply Kd.R_drewN | apply Kd.R_drew)); exact HO174.out)); (case aS => exact (below_size (by repeat (first | (with_reducible first | exact HB.out | apply below_alloc | apply pw_below_drewN | apply below_drew1) | exact HB.out)))); (case aL => have := LMc3.out; omega); intro v176 w21 ho hb hg hat; rw [← Ny175.out] at ho; have n0_ := Aside0.mk (hb); have n1_ := Aside0.mk (ho); clear HB; clear HO174; have HB := n0_; have HO177 := n1_; clear n0_ n1_; clear ho hb hg hat) | ((with_reducible refine gate_builtin (b := .append) (xs := #[.tmp 16, .tmp 18]) rfl ?_); (try (refine gate_guard (by rfl) ?_; dsimp only)); at_builtin; refine Kd.R_append (Kd.int .u8) (w0 := w) w.heap.size rfl (.tmp 16) (.tmp 18) 23 5 (.int .u8 0) 1 rfl Try.underlying23 info5 rfl (by decide) (by omega) v176 y175 a1 [.int .u8 a1] (fun _ => True) (fun _ => False) rfl rfl ?aP (fun _ hk => hk.elim) ?aF ?aO ?aB ?aS ?aL ?_; (case aP => exact rfl); (case aB => exact (by repeat (first | (with_reducible first | exact HB.out | apply below_alloc | apply pw_below_drewN | apply below_drew1) | exact HB.out))); (case aF => exact (fun _ _ => trivial)); (case aO => exact (by (with_reducible repeat (first | apply Kd.R_alloc | apply Kd.R_drewN | apply Kd.R_drew)); exact HO177.out)); (case aS => exact (below_size (by repeat (first | (with_reducible first | exact HB.out | apply below_alloc | apply pw_below_drewN | apply below_drew1) | exact HB.out)))); (case aL => have := LMc4.out; omega); intro v179 w22 ho hb hg hat; rw [← Ny178.out] at ho; have n0_ := Aside0.mk (hb); have n1_ := Aside0.mk (ho); clear HB; clear HO177; have HB := n0_; have HO180 := n1_; clear n0_ n1_; clear ho hb hg hat) | ((with_reducible refine gate_callee (f := 18) rfl ?_); refine goesL_ (some 22) rfl rfl Try.func18 (by kernel_rfl) rfl #[.slice A0 l0.length c0] rfl (by (try simp only [List.map_toArray, List.map_cons, List.map_nil]); first | done | rfl | (simp only [List.length_drop, List.length_take]; rfl)) ?_; (with_reducible refine (ends_Different.calls k _ _ l0 t181 t182 _ ?side1 ?side2 A5.out).mono ?_); (case side1 => repeat (first | exact (Kd.C_below HR0.out HB.out) | (with_reducible refine Kd.C_alloc ?_ _) | (with_reducible refine Kd.C_drewN ?_ _) | (with_reducible refine Kd.C_drew ?_))); (case side2 => exact HC0.out); rintro e w23 ⟨rfl, hb⟩; refine ⟨_, rfl, ?_⟩; have n0_ := Aside0.mk (Kd.R_below (by (with_reducible repeat (first | apply Kd.R_alloc | apply Kd.R_drewN | apply Kd.R_drew)); exact HO180.out) hb); have n1_ := Aside0.mk (below_step (by repeat (first | (with_reducible first | exact HB.out | apply below_alloc | apply pw_below_drewN | apply below_drew1) | exact HB.out)) hb); clear HO180; clear HB; have HO180 := n0_; have HB := n1_; clear n0_ n1_; (try clear hb); (try clear hb2); (try clear hk); (try clear hi); obtain ⟨Ao24, co24, eo24⟩ := Kd.R_slice HO180.out; subst eo24) | ((with_reducible refine gate_callee (f := 18) rfl ?_); refine goesL_ (some 27) rfl rfl Try.func18 (by kernel_rfl) rfl #[.slice Ao24 y178.length co24] rfl (by (try simp only [List.map_toArray, List.map_cons, List.map_nil]); first | done | rfl | (simp only [List.length_drop, List.length_take]; rfl)) ?_; (with_reducible refine (ends_Different.calls k _ _ y178 t183 t184 _ ?side1 ?side2 A6.out).mono ?_); (case side1 => repeat (first | exact (Kd.R_reads' HO180.out).2.2 | (with_reducible refine Kd.C_alloc ?_ _) | (with_reducible refine Kd.C_drewN ?_ _) | (with_reducible refine Kd.C_drew ?_))); (case side2 => exact (Kd.R_reads' HO180.out).2.1); rintro e w25 ⟨rfl, hb⟩; refine ⟨_, rfl, ?_⟩; have n0_ := Aside0.mk (Kd.R_below (by (with_reducible repeat (first | apply Kd.R_alloc | apply Kd.R_drewN | apply Kd.R_drew)); exact HO180.out) hb); have n1_ := Aside0.mk (below_step (by repeat (first | (with_reducible first | exact HB.out | apply below_alloc | apply pw_below_drewN | apply below_drew1) | exact HB.out)) hb); clear HO180; clear HB; have HO180 := n0_; have HB := n1_; clear n0_ n1_; (try clear hb); (try clear hb2); (try clear hk); (try clear hi)) | ((with_reducible refine gate_dst (N := 31) rfl ?_); (try (refine gate_guard (by rfl) ?_; dsimp only)); refine Kd.N_lit (Kd.slice 5 (Kd.int .u8)) _ 23 ?hg (N' := 31) ?hd (xs := ([y178] : List (List Int))) (inner := [.slice Ao24 y178.length co24]) (ok := (fun _ => True)) (okp := (fun _ => True)) ?hr ?hp (fun _ hk => hk) ((show ∀ k_, w25.heap.size ≤ k_ → (fun _ => True) k_ from fun k_ hk => trivial) _ (Nat.le_refl _)) (Below.refl _ _) (Nat.le_refl _) (by simp) ?_; (case hd => rfl); (case hg => rfl); (case hr => first | (go_simp; done) | (go_simp; rfl)); (case hp => first | exact (Reps.one (show Kd.FK (Kd.slice 5 (Kd.int .u8)) _ _ y178 [.slice Ao24 y178.length co24] from (Kd.FK_slice_mk (Kd.R_reads' (Kd.R_mono (ok' := (fun _ => True)) (HO180.out) (fun k_ hk => trivial))).2.1 (Kd.R_F (Kd.R_mono (ok' := (fun _ => True)) (HO180.out) (fun k_ hk => trivial))))) (Reps.none _ _)) | exact (Reps.one (show Kd.FK (Kd.slice 5 (Kd.int .u8)) _ _ y178 [.slice Ao24 y178.length co24] from (Kd.FK_slice_mk (Kd.R_reads' (Kd.R_mono (ok' := (fun _ => True)) (HO180.out) (fun k_ hk => trivial))).2.1 (Kd.R_F (Kd.R_mono (ok' := (fun _ => True)) (HO180.out) (fun k_ hk => trivial))))) (Reps.none _ _))); intro v186 w26 ho27 hb hg_ hnew_; clear hg_ hnew_; (first | rw [← Ny185.out] at ho27 | (simp only [Int.reduceToNat] at ho27; rw [← Ny185.out] at ho27)); have n0_ := Aside0.mk (Kd.N_lower ho27 (below_size (by repeat (first | (with_reducible first | exact HB.out | apply below_alloc | apply pw_below_drewN | apply below_drew1) | exact HB.out)))); have n1_ := Aside0.mk (below_step (by repeat (first | (with_reducible first | exact HB.out | apply below_alloc | apply pw_below_drewN | apply below_drew1) | exact HB.out)) hb); have n2_ := Aside0.mk (Kd.R_below HO180.out hb); clear HB; clear HO180; have HO187 := n0_; have HB := n1_; have HO180 := n2_; clear n0_ n1_ n2_; clear hb ho27; obtain ⟨Ao28, co28, eo28⟩ := Kd.N_slice HO187.out; subst eo28) | ((with_reducible refine gate_callee (f := 19) rfl ?_); refine goesL_ (some 32) rfl rfl Try.func19 (by kernel_rfl) rfl #[.slice Ao28 y185.length co28] rfl (by (try simp only [List.map_toArray, List.map_cons, List.map_nil]); first | done | rfl | (simp only [List.length_drop, List.length_take]; rfl)) ?_; (with_reducible refine (coppicerkeep_long.calls k _ _ y185 false _ ?side1 ?side2 A7.out).mono ?_); (case side1 => repeat (first | exact (Kd.N_reads' HO187.out).2.2 | (with_reducible refine Kd.C_alloc ?_ _) | (with_reducible refine Kd.C_drewN ?_ _) | (with_reducible refine Kd.C_drew ?_))); (case side2 => exact (Kd.N_reads' HO187.out).2.1); rintro e w' ⟨rfl, ⟨nd, rfl⟩⟩; refine ⟨_, rfl, ?_⟩))
        go_loopg [10, 11] k (fun kq v10 v11 w' => ∃ (x10_1 : Int) (x11_1 : Int), v10 = .int .i64 x10_1 ∧ v11 = .int .i64 x11_1 ∧ Aside0 (coppicerkeep_EndsGrow.l0 kq l0 y178 t181 t182 t183 t184 x10_1 x11_1 = some r) ∧ Aside0 (kq ≤ k) ∧ Aside0 (Kd.R (Kd.int .u8) 5 w' w.heap.size (fun _ => True) (.slice Ao24 y178.length co24) y178) ∧ Aside0 (Below w.heap.size w w'))
        case atStart => exact ⟨(0), (1), (by first | rfl | (simp; done) | (simp [*]; done)), (by first | rfl | (simp; done) | (simp [*]; done)), H', ⟨Nat.le_refl _⟩, ⟨by (with_reducible repeat (first | apply Kd.R_alloc | apply Kd.R_drewN | apply Kd.R_drew)); exact HO180.out⟩, ⟨by repeat (first | (with_reducible first | exact HB.out | apply below_alloc | apply pw_below_drewN | apply below_drew1) | exact HB.out)⟩⟩
        case round =>
          clear H'
          try clear c1
          try clear p2
          try clear c3
          try clear c4
          try clear c5
          try clear c8
          try clear c18
          try clear c19
          obtain ⟨x10_1, x11_1, rfl, rfl, HA, HK1, HO_5, HB⟩ := hrel
          cases gk with
          | zero => exact absurd HA.out (by simp [coppicerkeep_EndsGrow.l0])
          | succ k1 =>
            have H := HA.out
            clear HA
            simp only [coppicerkeep_EndsGrow.l0] at H
            by_cases c29 : x11_1 ≤ (y178.length : Int)
            · rw [if_pos c29] at H
              have c29b0 : decide (x11_1 ≤ (y178.length : Int)) = true := decide_eq_true c29
              clear c29
              obtain ⟨ji30, hji30⟩ : ∃ j_ : Int, (wrap64 ((y178.length : Int) - x11_1)) = j_ := ⟨_, rfl⟩
              replace H : (if 0 ≤ (ji30) then (if (ji30) ≤ (y178.length : Int) then ((ends_Count.f k1 l0 (y178.drop ((ji30) : Int).toNat)).bind fun bt194 => (if bt194.2 = 0 then (if bt194.1 > 0 then (coppicerkeep_EndsGrow.l0 k1 l0 y178 t181 t182 t183 t184 x11_1 (wrap64 (x11_1 + 1))) else (coppicerkeep_EndsGrow.l0 k1 l0 y178 t181 t182 t183 t184 x10_1 (wrap64 (x11_1 + 1)))) else (some false))) else (none)) else (none)) = some r := by first | (rw [hji30] at H; exact H) | (simp only [hji30] at H ⊢; exact H)
              have hji30w : (IntKind.i64.wrap ((y178.length : Int) - x11_1)) = ji30 := (i64_w _).trans hji30
              by_cases c31 : 0 ≤ (ji30)
              · rw [if_pos c31] at H
                have c31b0 := eq_true c31
                have c31b1 : decide (0 ≤ (ji30)) = true := decide_eq_true c31
                clear c31
                by_cases c32 : (ji30) ≤ (y178.length : Int)
                · rw [if_pos c32] at H
                  have c32b0 := eq_true c32
                  have c32b1 : decide ((ji30) ≤ (y178.length : Int)) = true := decide_eq_true c32
                  clear c32
                  obtain ⟨y189, hy189⟩ : ∃ y_ : List Int, y_ = (y178.drop ((ji30) : Int).toNat) := ⟨_, rfl⟩
                  replace H : ((ends_Count.f k1 l0 y189).bind fun bt194 => (if bt194.2 = 0 then (if bt194.1 > 0 then (coppicerkeep_EndsGrow.l0 k1 l0 y178 t181 t182 t183 t184 x11_1 (wrap64 (x11_1 + 1))) else (coppicerkeep_EndsGrow.l0 k1 l0 y178 t181 t182 t183 t184 x10_1 (wrap64 (x11_1 + 1)))) else (some false))) = some r := by first | (rw [hy189]; with_reducible exact H) | (have H2_ := (Option.bind_some _ _).symm.trans H; rw [hy189]; with_reducible exact H2_) | (have H2_ := (Option.bind_some _ _).symm.trans H; with_reducible exact H2_) | with_reducible exact H | (rw [hy189]; exact H) | exact H
                  have Ny189 := Aside0.mk hy189
                  clear hy189
                  replace H := Option.bind_eq_some_iff.mp H
                  obtain ⟨⟨t194, t195⟩, A330, H⟩ := H
                  replace H : (if t195 = 0 then (if t194 > 0 then (coppicerkeep_EndsGrow.l0 k1 l0 y178 t181 t182 t183 t184 x11_1 (wrap64 (x11_1 + 1))) else (coppicerkeep_EndsGrow.l0 k1 l0 y178 t181 t182 t183 t184 x10_1 (wrap64 (x11_1 + 1)))) else (some false)) = some r := H
                  have A33 := Aside0.mk A330
                  clear A330
                  by_cases c34 : t195 = 0
                  · rw [if_pos c34] at H
                    have c34b0 : (t195 == 0) = true := beq_iff_eq.mpr c34
                    have c34b1 : (t195 != 0) = false := bne_eq_false_iff_eq.mpr c34
                    clear c34
                    by_cases c35 : t194 > 0
                    · rw [if_pos c35] at H
                      have c35b0 : decide (0 < t194) = true := decide_eq_true c35
                      clear c35
                      have H' := Aside0.mk H
                      clear H
                      have q36 : ((ji30) : Int) ≤ ((y178.length : Int) : Int) := of_decide_eq_true (by first | (with_reducible assumption) | assumption)
                      obtain ⟨i036, hi036, _, hsz36, _⟩ := info_parts info5
                      have hroom36 : y178.length ≤ co24 := (Kd.R_reads' HO_5.out).2.1
                      have hC36 : Kd.F (Kd.int .u8) _ _ Ao24 y178.length y178 := (Kd.V_at (base := w.heap.size) (Kd.R_V HO_5.out)).2.2
                      have q036 : (0 : Int) ≤ ((ji30) : Int) := of_decide_eq_true (by first | (with_reducible assumption) | assumption)
                      have hcut36 := cut_from (P := Try.prog) 23 5 .i64 Try.underlying23 hi036 1 hsz36 Ao24 y178.length co24 (ji30) q036 q36
                      have hr36 := Kd.F_cut (m := ((ji30) : Int).toNat) (c := co24) hC36 (by omega) hroom36
                      obtain ⟨A36, hA36⟩ : ∃ A1, A1 = (if co24 = ((ji30) : Int).toNat then Ao24 else (Ao24 : Option Addr).map (·.add (((ji30) : Int).toNat * 1))) := ⟨_, rfl⟩
                      obtain ⟨c36, hc36⟩ : ∃ cc_, cc_ = co24 - ((ji30) : Int).toNat := ⟨_, rfl⟩
                      have hy36 : y189.length = y178.length - ((ji30) : Int).toNat := (by rw [Ny189.out, List.length_drop] <;> omega)
                      rw [show (y178).drop ((ji30) : Int).toNat = y189 from Ny189.out.symm] at hr36
                      replace hr36 : Kd.F (Kd.int .u8) _ _ A36 y189.length y189 := (by rw [hA36]; exact hr36)
                      rw [← hy36, ← hA36, ← hc36] at hcut36
                      have HO193 := Aside0.mk (show Kd.V (Kd.int .u8) 5 _ w.heap.size _ (.slice A36 y189.length c36) y189 from Kd.V_mk (by rw [hy36, hc36]; exact Nat.sub_le_sub_right hroom36 _) hr36)
                      have HC193 := Aside0.mk (show y189.length ≤ c36 from by rw [hy36, hc36]; exact Nat.sub_le_sub_right hroom36 _)
                      clear hr36 hC36 hroom36 hi036 hsz36 hc36
                      have KY36 := Aside0.mk hy36
                      have KA36 := Aside0.mk hA36
                      clear hy36 hA36
                      replace q36 := eq_true q36
                      go_wp2_with (first | ((with_reducible refine gate_callee (f := 20) rfl ?_); refine goesL_ (some 49) rfl rfl Try.func20 (by kernel_rfl) rfl #[.slice A0 l0.length c0, .slice A36 y189.length c36] rfl (by (try simp only [List.map_toArray, List.map_cons, List.map_nil]); first | done | rfl | (simp only [List.length_drop, List.length_take]; rfl)) ?_; (with_reducible refine (ends_Count.calls k1 _ _ l0 _ _ y189 t194 t195 _ ?side1 ?side2 ?side3 ?side4 A33.out).mono ?_); (case side1 => repeat (first | exact (Kd.C_below HR0.out HB.out) | (with_reducible refine Kd.C_alloc ?_ _) | (with_reducible refine Kd.C_drewN ?_ _) | (with_reducible refine Kd.C_drew ?_))); (case side2 => exact HC0.out); (case side3 => repeat (first | exact (Kd.V_reads' HO193.out).2.2 | (with_reducible refine Kd.C_alloc ?_ _) | (with_reducible refine Kd.C_drewN ?_ _) | (with_reducible refine Kd.C_drew ?_))); (case side4 => exact (Kd.V_reads' HO193.out).2.1); rintro e w37 ⟨rfl, hb⟩; refine ⟨_, rfl, ?_⟩; have n0_ := Aside0.mk (Kd.R_below (by (with_reducible repeat (first | apply Kd.R_alloc | apply Kd.R_drewN | apply Kd.R_drew)); exact HO_5.out) hb); have n1_ := Aside0.mk (Kd.V_below (by (with_reducible repeat (first | apply Kd.V_alloc | apply Kd.V_drewN | apply Kd.V_drew)); exact HO193.out) hb); have n2_ := Aside0.mk (below_step (by repeat (first | (with_reducible first | exact HB.out | apply below_alloc | apply pw_below_drewN | apply below_drew1) | exact HB.out)) hb); clear HO_5; clear HO193; clear HB; have HO_5 := n0_; have HO193 := n1_; have HB := n2_; clear n0_ n1_ n2_; (try clear hb); (try clear hb2); (try clear hk); (try clear hi)))
                      first | go_roundg k1 | ((simp only [← hji30]); go_roundg k1)
                      case measure => have := HK1.out; omega
                      case rel => exact ⟨(x11_1), (wrap64 (x11_1 + 1)), (by first | rfl | (simp; done) | (simp [*]; done)), (by first | rfl | (simp; done) | (simp [*]; done)), (by first | exact H' | ((simp only [hji30]); exact H') | (have h_ := H'.out; simp only [← hji30] at h_ ⊢; exact ⟨h_⟩)), ⟨by have := HK1.out; omega⟩, ⟨by (with_reducible repeat (first | apply Kd.R_alloc | apply Kd.R_drewN | apply Kd.R_drew)); exact HO_5.out⟩, ⟨by repeat (first | (with_reducible first | exact HB.out | apply below_alloc | apply pw_below_drewN | apply below_drew1) | exact HB.out)⟩⟩
                    · rw [if_neg c35] at H
                      have c35b0 : decide (0 < t194) = false := decide_eq_false c35
                      clear c35
                      have H' := Aside0.mk H
                      clear H
                      have q38 : ((ji30) : Int) ≤ ((y178.length : Int) : Int) := of_decide_eq_true (by first | (with_reducible assumption) | assumption)
                      obtain ⟨i038, hi038, _, hsz38, _⟩ := info_parts info5
                      have hroom38 : y178.length ≤ co24 := (Kd.R_reads' HO_5.out).2.1
                      have hC38 : Kd.F (Kd.int .u8) _ _ Ao24 y178.length y178 := (Kd.V_at (base := w.heap.size) (Kd.R_V HO_5.out)).2.2
                      have q038 : (0 : Int) ≤ ((ji30) : Int) := of_decide_eq_true (by first | (with_reducible assumption) | assumption)
                      have hcut38 := cut_from (P := Try.prog) 23 5 .i64 Try.underlying23 hi038 1 hsz38 Ao24 y178.length co24 (ji30) q038 q38
                      have hr38 := Kd.F_cut (m := ((ji30) : Int).toNat) (c := co24) hC38 (by omega) hroom38
                      obtain ⟨A38, hA38⟩ : ∃ A1, A1 = (if co24 = ((ji30) : Int).toNat then Ao24 else (Ao24 : Option Addr).map (·.add (((ji30) : Int).toNat * 1))) := ⟨_, rfl⟩
                      obtain ⟨c38, hc38⟩ : ∃ cc_, cc_ = co24 - ((ji30) : Int).toNat := ⟨_, rfl⟩
                      have hy38 : y189.length = y178.length - ((ji30) : Int).toNat := (by rw [Ny189.out, List.length_drop] <;> omega)
                      rw [show (y178).drop ((ji30) : Int).toNat = y189 from Ny189.out.symm] at hr38
                      replace hr38 : Kd.F (Kd.int .u8) _ _ A38 y189.length y189 := (by rw [hA38]; exact hr38)
                      rw [← hy38, ← hA38, ← hc38] at hcut38
                      have HO193 := Aside0.mk (show Kd.V (Kd.int .u8) 5 _ w.heap.size _ (.slice A38 y189.length c38) y189 from Kd.V_mk (by rw [hy38, hc38]; exact Nat.sub_le_sub_right hroom38 _) hr38)
                      have HC193 := Aside0.mk (show y189.length ≤ c38 from by rw [hy38, hc38]; exact Nat.sub_le_sub_right hroom38 _)
                      clear hr38 hC38 hroom38 hi038 hsz38 hc38
                      have KY38 := Aside0.mk hy38
                      have KA38 := Aside0.mk hA38
                      clear hy38 hA38
                      replace q38 := eq_true q38
                      go_wp2_with (first | ((with_reducible refine gate_callee (f := 20) rfl ?_); refine goesL_ (some 49) rfl rfl Try.func20 (by kernel_rfl) rfl #[.slice A0 l0.length c0, .slice A38 y189.length c38] rfl (by (try simp only [List.map_toArray, List.map_cons, List.map_nil]); first | done | rfl | (simp only [List.length_drop, List.length_take]; rfl)) ?_; (with_reducible refine (ends_Count.calls k1 _ _ l0 _ _ y189 t194 t195 _ ?side1 ?side2 ?side3 ?side4 A33.out).mono ?_); (case side1 => repeat (first | exact (Kd.C_below HR0.out HB.out) | (with_reducible refine Kd.C_alloc ?_ _) | (with_reducible refine Kd.C_drewN ?_ _) | (with_reducible refine Kd.C_drew ?_))); (case side2 => exact HC0.out); (case side3 => repeat (first | exact (Kd.V_reads' HO193.out).2.2 | (with_reducible refine Kd.C_alloc ?_ _) | (with_reducible refine Kd.C_drewN ?_ _) | (with_reducible refine Kd.C_drew ?_))); (case side4 => exact (Kd.V_reads' HO193.out).2.1); rintro e w39 ⟨rfl, hb⟩; refine ⟨_, rfl, ?_⟩; have n0_ := Aside0.mk (Kd.R_below (by (with_reducible repeat (first | apply Kd.R_alloc | apply Kd.R_drewN | apply Kd.R_drew)); exact HO_5.out) hb); have n1_ := Aside0.mk (Kd.V_below (by (with_reducible repeat (first | apply Kd.V_alloc | apply Kd.V_drewN | apply Kd.V_drew)); exact HO193.out) hb); have n2_ := Aside0.mk (below_step (by repeat (first | (with_reducible first | exact HB.out | apply below_alloc | apply pw_below_drewN | apply below_drew1) | exact HB.out)) hb); clear HO_5; clear HO193; clear HB; have HO_5 := n0_; have HO193 := n1_; have HB := n2_; clear n0_ n1_ n2_; (try clear hb); (try clear hb2); (try clear hk); (try clear hi)))
                      first | go_roundg k1 | ((simp only [← hji30]); go_roundg k1)
                      case measure => have := HK1.out; omega
                      case rel => exact ⟨(x10_1), (wrap64 (x11_1 + 1)), (by first | rfl | (simp; done) | (simp [*]; done)), (by first | rfl | (simp; done) | (simp [*]; done)), (by first | exact H' | ((simp only [hji30]); exact H') | (have h_ := H'.out; simp only [← hji30] at h_ ⊢; exact ⟨h_⟩)), ⟨by have := HK1.out; omega⟩, ⟨by (with_reducible repeat (first | apply Kd.R_alloc | apply Kd.R_drewN | apply Kd.R_drew)); exact HO_5.out⟩, ⟨by repeat (first | (with_reducible first | exact HB.out | apply below_alloc | apply pw_below_drewN | apply below_drew1) | exact HB.out)⟩⟩
                  · rw [if_neg c34] at H
                    have c34b0 : (t195 == 0) = false := beq_eq_false_iff_ne.mpr c34
                    have c34b1 : (t195 != 0) = true := bne_iff_ne.mpr c34
                    obtain rfl := Option.some.inj H
                    have q40 : ((ji30) : Int) ≤ ((y178.length : Int) : Int) := of_decide_eq_true (by first | (with_reducible assumption) | assumption)
                    obtain ⟨i040, hi040, _, hsz40, _⟩ := info_parts info5
                    have hroom40 : y178.length ≤ co24 := (Kd.R_reads' HO_5.out).2.1
                    have hC40 : Kd.F (Kd.int .u8) _ _ Ao24 y178.length y178 := (Kd.V_at (base := w.heap.size) (Kd.R_V HO_5.out)).2.2
                    have q040 : (0 : Int) ≤ ((ji30) : Int) := of_decide_eq_true (by first | (with_reducible assumption) | assumption)
                    have hcut40 := cut_from (P := Try.prog) 23 5 .i64 Try.underlying23 hi040 1 hsz40 Ao24 y178.length co24 (ji30) q040 q40
                    have hr40 := Kd.F_cut (m := ((ji30) : Int).toNat) (c := co24) hC40 (by omega) hroom40
                    obtain ⟨A40, hA40⟩ : ∃ A1, A1 = (if co24 = ((ji30) : Int).toNat then Ao24 else (Ao24 : Option Addr).map (·.add (((ji30) : Int).toNat * 1))) := ⟨_, rfl⟩
                    obtain ⟨c40, hc40⟩ : ∃ cc_, cc_ = co24 - ((ji30) : Int).toNat := ⟨_, rfl⟩
                    have hy40 : y189.length = y178.length - ((ji30) : Int).toNat := (by rw [Ny189.out, List.length_drop] <;> omega)
                    rw [show (y178).drop ((ji30) : Int).toNat = y189 from Ny189.out.symm] at hr40
                    replace hr40 : Kd.F (Kd.int .u8) _ _ A40 y189.length y189 := (by rw [hA40]; exact hr40)
                    rw [← hy40, ← hA40, ← hc40] at hcut40
                    have HO193 := Aside0.mk (show Kd.V (Kd.int .u8) 5 _ w.heap.size _ (.slice A40 y189.length c40) y189 from Kd.V_mk (by rw [hy40, hc40]; exact Nat.sub_le_sub_right hroom40 _) hr40)
                    have HC193 := Aside0.mk (show y189.length ≤ c40 from by rw [hy40, hc40]; exact Nat.sub_le_sub_right hroom40 _)
                    clear hr40 hC40 hroom40 hi040 hsz40 hc40
                    have KY40 := Aside0.mk hy40
                    have KA40 := Aside0.mk hA40
                    clear hy40 hA40
                    replace q40 := eq_true q40
                    go_wp2_with (first | ((with_reducible refine gate_callee (f := 20) rfl ?_); refine goesL_ (some 49) rfl rfl Try.func20 (by kernel_rfl) rfl #[.slice A0 l0.length c0, .slice A40 y189.length c40] rfl (by (try simp only [List.map_toArray, List.map_cons, List.map_nil]); first | done | rfl | (simp only [List.length_drop, List.length_take]; rfl)) ?_; (with_reducible refine (ends_Count.calls k1 _ _ l0 _ _ y189 t194 t195 _ ?side1 ?side2 ?side3 ?side4 A33.out).mono ?_); (case side1 => repeat (first | exact (Kd.C_below HR0.out HB.out) | (with_reducible refine Kd.C_alloc ?_ _) | (with_reducible refine Kd.C_drewN ?_ _) | (with_reducible refine Kd.C_drew ?_))); (case side2 => exact HC0.out); (case side3 => repeat (first | exact (Kd.V_reads' HO193.out).2.2 | (with_reducible refine Kd.C_alloc ?_ _) | (with_reducible refine Kd.C_drewN ?_ _) | (with_reducible refine Kd.C_drew ?_))); (case side4 => exact (Kd.V_reads' HO193.out).2.1); rintro e w41 ⟨rfl, hb⟩; refine ⟨_, rfl, ?_⟩; have n0_ := Aside0.mk (Kd.R_below (by (with_reducible repeat (first | apply Kd.R_alloc | apply Kd.R_drewN | apply Kd.R_drew)); exact HO_5.out) hb); have n1_ := Aside0.mk (Kd.V_below (by (with_reducible repeat (first | apply Kd.V_alloc | apply Kd.V_drewN | apply Kd.V_drew)); exact HO193.out) hb); have n2_ := Aside0.mk (below_step (by repeat (first | (with_reducible first | exact HB.out | apply below_alloc | apply pw_below_drewN | apply below_drew1) | exact HB.out)) hb); clear HO_5; clear HO193; clear HB; have HO_5 := n0_; have HO193 := n1_; have HB := n2_; clear n0_ n1_ n2_; (try clear hb); (try clear hb2); (try clear hk); (try clear hi)))
                    go_ret
                    exact ⟨by first | rfl | (simp [errW_none, errW_some] <;> rfl) | (simp only [← hji30]; first | rfl | (simp [errW_none, errW_some] <;> rfl)) | (simp [*, errW_none, errW_some] <;> rfl), by repeat (first | (with_reducible first | exact HB.out | apply below_alloc | apply pw_below_drewN | apply below_drew1) | exact HB.out)⟩
                · rw [if_neg c32] at H
                  exact absurd H (by simp)
              · rw [if_neg c31] at H
                exact absurd H (by simp)
            · rw [if_neg c29] at H
              have c29b0 : decide (x11_1 ≤ (y178.length : Int)) = false := decide_eq_false c29
              clear c29
              by_cases c42 : t182 = 0
              · rw [if_pos c42] at H
                have c42b0 : (t182 == 0) = true := beq_iff_eq.mpr c42
                have c42b1 : (t182 != 0) = false := bne_eq_false_iff_eq.mpr c42
                clear c42
                by_cases c43 : t184 = 0
                · rw [if_pos c43] at H
                  have c43b0 : (t184 == 0) = true := beq_iff_eq.mpr c43
                  have c43b1 : (t184 != 0) = false := bne_eq_false_iff_eq.mpr c43
                  clear c43
                  obtain rfl := Option.some.inj H
                  go_wp2
                  go_ret
                  exact ⟨by first | rfl | (simp [errW_none, errW_some] <;> rfl) | (simp [*, errW_none, errW_some] <;> rfl), by repeat (first | (with_reducible first | exact HB.out | apply below_alloc | apply pw_below_drewN | apply below_drew1) | exact HB.out)⟩
                · rw [if_neg c43] at H
                  have c43b0 : (t184 == 0) = false := beq_eq_false_iff_ne.mpr c43
                  have c43b1 : (t184 != 0) = true := bne_iff_ne.mpr c43
                  obtain rfl := Option.some.inj H
                  go_wp2
                  go_ret
                  exact ⟨by first | rfl | (simp [errW_none, errW_some] <;> rfl) | (simp [*, errW_none, errW_some] <;> rfl), by repeat (first | (with_reducible first | exact HB.out | apply below_alloc | apply pw_below_drewN | apply below_drew1) | exact HB.out)⟩
              · rw [if_neg c42] at H
                have c42b0 : (t182 == 0) = false := beq_eq_false_iff_ne.mpr c42
                have c42b1 : (t182 != 0) = true := bne_iff_ne.mpr c42
                obtain rfl := Option.some.inj H
                go_wp2
                go_ret
                exact ⟨by first | rfl | (simp [errW_none, errW_some] <;> rfl) | (simp [*, errW_none, errW_some] <;> rfl), by repeat (first | (with_reducible first | exact HB.out | apply below_alloc | apply pw_below_drewN | apply below_drew1) | exact HB.out)⟩
    · rw [if_neg c4] at H
      exact absurd H (by simp)
  · rw [if_neg c3] at H
    exact absurd H (by simp)

/-- THE ONE PURE STATEMENT of coppicerkeep_EndsGrow: yours. -/
def coppicerkeep_EndsGrow.Pure : Prop := ∀ (l0 : List Int) (a1 : Int), (l0.length ≤ 9223372036854775807 ∧ l0.length * 1 ≤ 140737488351232 ∧ ∀ y_ ∈ l0, (Lit.int .u8 y_).wf = true) → ((Lit.int .u8 a1).wf = true) → ∃ k, coppicerkeep_EndsGrow.f k l0 a1 = some true
theorem coppicerkeep_EndsGrow.walk (P : coppicerkeep_EndsGrow.Pure) (A0 : Option Addr) (l0 : List Int) (c0 : Nat) (a1 : Int) (w : World) (hr0 : Kd.C (Kd.int .u8) w A0 l0.length l0) (hc0 : l0.length ≤ c0) (w0 : l0.length ≤ 9223372036854775807 ∧ l0.length * 1 ≤ 140737488351232 ∧ ∀ y_ ∈ l0, (Lit.int .u8 y_).wf = true) (w1 : (Lit.int .u8 a1).wf = true) :
    Calls Try.prog 5 #[.slice A0 l0.length c0, .int .u8 a1] w fun e w' => e = .returned (.bool true) ∧ Below w.heap.size w w' := by
  obtain ⟨k, h⟩ := P l0 a1 w0 w1
  refine (coppicerkeep_EndsGrow.calls k _ _ _ _ true w hr0 hc0 h).mono ?_
  rintro e w' ⟨rfl, hd⟩
  exact ⟨rfl, hd⟩

end Go.Proofs.Ytkalcljgcigdgaa.GE
