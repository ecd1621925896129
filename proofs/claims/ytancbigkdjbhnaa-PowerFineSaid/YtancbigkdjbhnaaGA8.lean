-- Written by ext.py, a program of this session.
import Derived.Test.YtancbigkdjbhnaaGA0
import Derived.Test.YtancbigkdjbhnaaGA6
import Derived.Test.YtancbigkdjbhnaaGA7
namespace Go.Proofs.Ytancbigkdjbhnaa.GA
open Go.RowKit Go.Proofs.YtancbigkdjbhnaaW.PrintWords Go.Proofs.YtancbigkdjbhnaaW.PrintLast Go.Proofs.YtancbigkdjbhnaaW.PrintMore
attribute [local go_sem] max2_int min2_int max_two min_two max_three min_three max_four min_four   -- for this text's walks alone
set_option linter.unusedVariables false
set_option linter.unusedSimpArgs false

/-! ### coppicerkeep_PowerFine: function 5 -/
mutual
def coppicerkeep_PowerFine.j0 : Nat → List Int → Int → Int → Bool → Bool → Bool → Option (Bool)
  | 0, _, _, _, _, _, _ => none
  | k + 1, x0, x1, x2, x7, x9, x84 => if x84 = true then (some false) else (if x7 = true then (if x9 = true then ((coppicerkeep_gcd.f k x1 x2).bind fun t183 => (coppicerkeep_PowerFine.j1 k x0 x1 x2 (decide ((wrap64 ((wrap64 (x1 + x2)) - t183)) > (x0.length : Int))))) else (coppicerkeep_PowerFine.j1 k x0 x1 x2 true)) else (coppicerkeep_PowerFine.j1 k x0 x1 x2 true))
def coppicerkeep_PowerFine.j1 : Nat → List Int → Int → Int → Bool → Option (Bool)
  | 0, _, _, _, _ => none
  | k + 1, x0, x1, x2, x102 => if x102 = true then (some true) else ((coppicerkeep_gcd.f k x1 x2).bind fun t184 => ((power_Period.f k x0 t184).bind fun bt185 => (if bt185.2 = 0 then (some bt185.1) else (some false))))
end
def coppicerkeep_PowerFine.f (k : Nat) (l0 : List Int) (a1 : Int) (a2 : Int) : Option (Bool) := (power_Period.f k l0 a1).bind fun bt173 => ((power_Period.f k l0 a2).bind fun bt175 => ((coppicerkeep_long.f k (([l0] : List (List Int)))).bind fun t180 => (if t180 = true then (if bt173.2 = 0 then (some false) else (some (bt175.2 != 0))) else ((power_Period.f k l0 (l0.length : Int)).bind fun bt181 => (if bt173.2 = 0 then (if bt175.2 = 0 then (if bt181.2 = 0 then (if (bt181.1 != (decide ((l0.length : Int) > 0))) = true then (coppicerkeep_PowerFine.j0 k l0 a1 a2 bt173.1 bt175.1 true) else (if bt173.1 = true then (if a1 < 1 then (coppicerkeep_PowerFine.j0 k l0 a1 a2 bt173.1 bt175.1 true) else (if a1 > (l0.length : Int) then (coppicerkeep_PowerFine.j0 k l0 a1 a2 bt173.1 bt175.1 true) else (if bt175.1 = true then (if a2 < 1 then (coppicerkeep_PowerFine.j0 k l0 a1 a2 bt173.1 bt175.1 true) else (coppicerkeep_PowerFine.j0 k l0 a1 a2 bt173.1 bt175.1 (decide (a2 > (l0.length : Int))))) else (coppicerkeep_PowerFine.j0 k l0 a1 a2 bt173.1 bt175.1 false)))) else (if bt175.1 = true then (if a2 < 1 then (coppicerkeep_PowerFine.j0 k l0 a1 a2 bt173.1 bt175.1 true) else (coppicerkeep_PowerFine.j0 k l0 a1 a2 bt173.1 bt175.1 (decide (a2 > (l0.length : Int))))) else (coppicerkeep_PowerFine.j0 k l0 a1 a2 bt173.1 bt175.1 false)))) else (coppicerkeep_PowerFine.j0 k l0 a1 a2 bt173.1 bt175.1 true)) else (coppicerkeep_PowerFine.j0 k l0 a1 a2 bt173.1 bt175.1 true)) else (coppicerkeep_PowerFine.j0 k l0 a1 a2 bt173.1 bt175.1 true))))))
theorem coppicerkeep_PowerFine.mono_l : ∀ k, (∀ y0 y1 y2 y3 y4 y5, LeO (coppicerkeep_PowerFine.j0 k y0 y1 y2 y3 y4 y5) (coppicerkeep_PowerFine.j0 (k + 1) y0 y1 y2 y3 y4 y5)) ∧ (∀ y0 y1 y2 y3, LeO (coppicerkeep_PowerFine.j1 k y0 y1 y2 y3) (coppicerkeep_PowerFine.j1 (k + 1) y0 y1 y2 y3))
  | 0 => ⟨fun _ _ _ _ _ _ r h => by simp [coppicerkeep_PowerFine.j0] at h, fun _ _ _ _ r h => by simp [coppicerkeep_PowerFine.j1] at h⟩
  | k + 1 => by
    obtain ⟨ih0, ih1⟩ := coppicerkeep_PowerFine.mono_l k
    refine ⟨?_, ?_⟩
    · intro y0 y1 y2 y3 y4 y5
      unfold coppicerkeep_PowerFine.j0
      repeat' first
      | (with_reducible exact ih0 _ _ _ _ _ _)
      | (with_reducible exact ih1 _ _ _ _)
      | (with_reducible exact coppicerkeep_gcd.mono _ _ _)
      | (with_reducible exact coppicerkeep_long.mono _ _)
      | (with_reducible exact power_Period.mono _ _ _)
      | (with_reducible exact LeO.refl _)
      | (with_reducible exact LeO.none _)
      | (with_reducible refine LeO.ite ?_ ?_)
      | (with_reducible refine LeO.bind ?_ (fun _ => ?_))
      | exact ih0 _ _ _ _ _ _
      | exact ih1 _ _ _ _
      | exact coppicerkeep_gcd.mono _ _ _
      | exact coppicerkeep_long.mono _ _
      | exact power_Period.mono _ _ _
      | exact LeO.none _
      | refine LeO.ite ?_ ?_
      | refine LeO.bind ?_ (fun _ => ?_)
    · intro y0 y1 y2 y3
      unfold coppicerkeep_PowerFine.j1
      repeat' first
      | (with_reducible exact ih0 _ _ _ _ _ _)
      | (with_reducible exact ih1 _ _ _ _)
      | (with_reducible exact coppicerkeep_gcd.mono _ _ _)
      | (with_reducible exact coppicerkeep_long.mono _ _)
      | (with_reducible exact power_Period.mono _ _ _)
      | (with_reducible exact LeO.refl _)
      | (with_reducible exact LeO.none _)
      | (with_reducible refine LeO.ite ?_ ?_)
      | (with_reducible refine LeO.bind ?_ (fun _ => ?_))
      | exact ih0 _ _ _ _ _ _
      | exact ih1 _ _ _ _
      | exact coppicerkeep_gcd.mono _ _ _
      | exact coppicerkeep_long.mono _ _
      | exact power_Period.mono _ _ _
      | exact LeO.none _
      | refine LeO.ite ?_ ?_
      | refine LeO.bind ?_ (fun _ => ?_)
theorem coppicerkeep_PowerFine.mono : ∀ a0 a1 a2 k, LeO (coppicerkeep_PowerFine.f k a0 a1 a2) (coppicerkeep_PowerFine.f (k + 1) a0 a1 a2) := by
  intro a0 a1 a2 k
  obtain ⟨ih0, ih1⟩ := coppicerkeep_PowerFine.mono_l k
  unfold coppicerkeep_PowerFine.f
  repeat' first
      | (with_reducible exact ih0 _ _ _ _ _ _)
      | (with_reducible exact ih1 _ _ _ _)
      | (with_reducible exact coppicerkeep_gcd.mono _ _ _)
      | (with_reducible exact coppicerkeep_long.mono _ _)
      | (with_reducible exact power_Period.mono _ _ _)
      | (with_reducible exact LeO.refl _)
      | (with_reducible exact LeO.none _)
      | (with_reducible refine LeO.ite ?_ ?_)
      | (with_reducible refine LeO.bind ?_ (fun _ => ?_))
      | exact ih0 _ _ _ _ _ _
      | exact ih1 _ _ _ _
      | exact coppicerkeep_gcd.mono _ _ _
      | exact coppicerkeep_long.mono _ _
      | exact power_Period.mono _ _ _
      | exact LeO.none _
      | refine LeO.ite ?_ ?_
      | refine LeO.bind ?_ (fun _ => ?_)
set_option maxHeartbeats 8000000 in
set_option maxRecDepth 100000 in
theorem coppicerkeep_PowerFine.calls (k : Nat) (P0_ : Nat → Prop) (A0 : Option Addr) (c0 : Nat) (l0 : List Int) (a1 : Int) (a2 : Int) (r : Bool) (w : World) (hs0 : Kd.V (Kd.int .u8) 5 w w.heap.size (fun k_ => P0_ k_) (.slice A0 l0.length c0) l0) (h : coppicerkeep_PowerFine.f k l0 a1 a2 = some r) :
    Calls Try.prog 5 #[.slice A0 l0.length c0, .int .i64 a1, .int .i64 a2] w fun e w' => e = .returned (.bool r) ∧ Below w.heap.size w w' := by
  have HO0 := Aside0.mk (show Kd.V (Kd.int .u8) 5 w w.heap.size (fun k_ => (P0_ k_ ∨ w.heap.size ≤ k_)) (.slice A0 l0.length c0) l0 from Kd.V_mono hs0 (fun k_ hk => .inl hk))
  have HB := Aside0.mk (Below.refl w.heap.size w)
  have H : ((power_Period.f k l0 a1).bind fun bt173 => ((power_Period.f k l0 a2).bind fun bt175 => ((coppicerkeep_long.f k (([l0] : List (List Int)))).bind fun t180 => (if t180 = true then (if bt173.2 = 0 then (some false) else (some (bt175.2 != 0))) else ((power_Period.f k l0 (l0.length : Int)).bind fun bt181 => (if bt173.2 = 0 then (if bt175.2 = 0 then (if bt181.2 = 0 then (if (bt181.1 != (decide ((l0.length : Int) > 0))) = true then (coppicerkeep_PowerFine.j0 k l0 a1 a2 bt173.1 bt175.1 true) else (if bt173.1 = true then (if a1 < 1 then (coppicerkeep_PowerFine.j0 k l0 a1 a2 bt173.1 bt175.1 true) else (if a1 > (l0.length : Int) then (coppicerkeep_PowerFine.j0 k l0 a1 a2 bt173.1 bt175.1 true) else (if bt175.1 = true then (if a2 < 1 then (coppicerkeep_PowerFine.j0 k l0 a1 a2 bt173.1 bt175.1 true) else (coppicerkeep_PowerFine.j0 k l0 a1 a2 bt173.1 bt175.1 (decide (a2 > (l0.length : Int))))) else (coppicerkeep_PowerFine.j0 k l0 a1 a2 bt173.1 bt175.1 false)))) else (if bt175.1 = true then (if a2 < 1 then (coppicerkeep_PowerFine.j0 k l0 a1 a2 bt173.1 bt175.1 true) else (coppicerkeep_PowerFine.j0 k l0 a1 a2 bt173.1 bt175.1 (decide (a2 > (l0.length : Int))))) else (coppicerkeep_PowerFine.j0 k l0 a1 a2 bt173.1 bt175.1 false)))) else (coppicerkeep_PowerFine.j0 k l0 a1 a2 bt173.1 bt175.1 true)) else (coppicerkeep_PowerFine.j0 k l0 a1 a2 bt173.1 bt175.1 true)) else (coppicerkeep_PowerFine.j0 k l0 a1 a2 bt173.1 bt175.1 true))))))) = some r := h
  clear h
  replace H := Option.bind_eq_some_iff.mp H
  obtain ⟨⟨t173, t174⟩, A40, H⟩ := H
  replace H : ((power_Period.f k l0 a2).bind fun bt175 => ((coppicerkeep_long.f k (([l0] : List (List Int)))).bind fun t180 => (if t180 = true then (if t174 = 0 then (some false) else (some (bt175.2 != 0))) else ((power_Period.f k l0 (l0.length : Int)).bind fun bt181 => (if t174 = 0 then (if bt175.2 = 0 then (if bt181.2 = 0 then (if (bt181.1 != (decide ((l0.length : Int) > 0))) = true then (coppicerkeep_PowerFine.j0 k l0 a1 a2 t173 bt175.1 true) else (if t173 = true then (if a1 < 1 then (coppicerkeep_PowerFine.j0 k l0 a1 a2 t173 bt175.1 true) else (if a1 > (l0.length : Int) then (coppicerkeep_PowerFine.j0 k l0 a1 a2 t173 bt175.1 true) else (if bt175.1 = true then (if a2 < 1 then (coppicerkeep_PowerFine.j0 k l0 a1 a2 t173 bt175.1 true) else (coppicerkeep_PowerFine.j0 k l0 a1 a2 t173 bt175.1 (decide (a2 > (l0.length : Int))))) else (coppicerkeep_PowerFine.j0 k l0 a1 a2 t173 bt175.1 false)))) else (if bt175.1 = true then (if a2 < 1 then (coppicerkeep_PowerFine.j0 k l0 a1 a2 t173 bt175.1 true) else (coppicerkeep_PowerFine.j0 k l0 a1 a2 t173 bt175.1 (decide (a2 > (l0.length : Int))))) else (coppicerkeep_PowerFine.j0 k l0 a1 a2 t173 bt175.1 false)))) else (coppicerkeep_PowerFine.j0 k l0 a1 a2 t173 bt175.1 true)) else (coppicerkeep_PowerFine.j0 k l0 a1 a2 t173 bt175.1 true)) else (coppicerkeep_PowerFine.j0 k l0 a1 a2 t173 bt175.1 true)))))) = some r := H
  have A4 := Aside0.mk A40
  clear A40
  replace H := Option.bind_eq_some_iff.mp H
  obtain ⟨⟨t175, t176⟩, A50, H⟩ := H
  replace H : ((coppicerkeep_long.f k (([l0] : List (List Int)))).bind fun t180 => (if t180 = true then (if t174 = 0 then (some false) else (some (t176 != 0))) else ((power_Period.f k l0 (l0.length : Int)).bind fun bt181 => (if t174 = 0 then (if t176 = 0 then (if bt181.2 = 0 then (if (bt181.1 != (decide ((l0.length : Int) > 0))) = true then (coppicerkeep_PowerFine.j0 k l0 a1 a2 t173 t175 true) else (if t173 = true then (if a1 < 1 then (coppicerkeep_PowerFine.j0 k l0 a1 a2 t173 t175 true) else (if a1 > (l0.length : Int) then (coppicerkeep_PowerFine.j0 k l0 a1 a2 t173 t175 true) else (if t175 = true then (if a2 < 1 then (coppicerkeep_PowerFine.j0 k l0 a1 a2 t173 t175 true) else (coppicerkeep_PowerFine.j0 k l0 a1 a2 t173 t175 (decide (a2 > (l0.length : Int))))) else (coppicerkeep_PowerFine.j0 k l0 a1 a2 t173 t175 false)))) else (if t175 = true then (if a2 < 1 then (coppicerkeep_PowerFine.j0 k l0 a1 a2 t173 t175 true) else (coppicerkeep_PowerFine.j0 k l0 a1 a2 t173 t175 (decide (a2 > (l0.length : Int))))) else (coppicerkeep_PowerFine.j0 k l0 a1 a2 t173 t175 false)))) else (coppicerkeep_PowerFine.j0 k l0 a1 a2 t173 t175 true)) else (coppicerkeep_PowerFine.j0 k l0 a1 a2 t173 t175 true)) else (coppicerkeep_PowerFine.j0 k l0 a1 a2 t173 t175 true))))) = some r := H
  have A5 := Aside0.mk A50
  clear A50
  obtain ⟨y177, hy177⟩ : ∃ y_ : List (List Int), y_ = (([l0] : List (List Int))) := ⟨_, rfl⟩
  replace H : ((coppicerkeep_long.f k y177).bind fun t180 => (if t180 = true then (if t174 = 0 then (some false) else (some (t176 != 0))) else ((power_Period.f k l0 (l0.length : Int)).bind fun bt181 => (if t174 = 0 then (if t176 = 0 then (if bt181.2 = 0 then (if (bt181.1 != (decide ((l0.length : Int) > 0))) = true then (coppicerkeep_PowerFine.j0 k l0 a1 a2 t173 t175 true) else (if t173 = true then (if a1 < 1 then (coppicerkeep_PowerFine.j0 k l0 a1 a2 t173 t175 true) else (if a1 > (l0.length : Int) then (coppicerkeep_PowerFine.j0 k l0 a1 a2 t173 t175 true) else (if t175 = true then (if a2 < 1 then (coppicerkeep_PowerFine.j0 k l0 a1 a2 t173 t175 true) else (coppicerkeep_PowerFine.j0 k l0 a1 a2 t173 t175 (decide (a2 > (l0.length : Int))))) else (coppicerkeep_PowerFine.j0 k l0 a1 a2 t173 t175 false)))) else (if t175 = true then (if a2 < 1 then (coppicerkeep_PowerFine.j0 k l0 a1 a2 t173 t175 true) else (coppicerkeep_PowerFine.j0 k l0 a1 a2 t173 t175 (decide (a2 > (l0.length : Int))))) else (coppicerkeep_PowerFine.j0 k l0 a1 a2 t173 t175 false)))) else (coppicerkeep_PowerFine.j0 k l0 a1 a2 t173 t175 true)) else (coppicerkeep_PowerFine.j0 k l0 a1 a2 t173 t175 true)) else (coppicerkeep_PowerFine.j0 k l0 a1 a2 t173 t175 true))))) = some r := by first | (rw [hy177]; with_reducible exact H) | (have H2_ := (Option.bind_some _ _).symm.trans H; rw [hy177]; with_reducible exact H2_) | (have H2_ := (Option.bind_some _ _).symm.trans H; with_reducible exact H2_) | with_reducible exact H | (rw [hy177]; exact H) | exact H
  have Ny177 := Aside0.mk hy177
  clear hy177
  replace H := Option.bind_eq_some_iff.mp H
  obtain ⟨t180, A60, H⟩ := H
  replace H : (if t180 = true then (if t174 = 0 then (some false) else (some (t176 != 0))) else ((power_Period.f k l0 (l0.length : Int)).bind fun bt181 => (if t174 = 0 then (if t176 = 0 then (if bt181.2 = 0 then (if (bt181.1 != (decide ((l0.length : Int) > 0))) = true then (coppicerkeep_PowerFine.j0 k l0 a1 a2 t173 t175 true) else (if t173 = true then (if a1 < 1 then (coppicerkeep_PowerFine.j0 k l0 a1 a2 t173 t175 true) else (if a1 > (l0.length : Int) then (coppicerkeep_PowerFine.j0 k l0 a1 a2 t173 t175 true) else (if t175 = true then (if a2 < 1 then (coppicerkeep_PowerFine.j0 k l0 a1 a2 t173 t175 true) else (coppicerkeep_PowerFine.j0 k l0 a1 a2 t173 t175 (decide (a2 > (l0.length : Int))))) else (coppicerkeep_PowerFine.j0 k l0 a1 a2 t173 t175 false)))) else (if t175 = true then (if a2 < 1 then (coppicerkeep_PowerFine.j0 k l0 a1 a2 t173 t175 true) else (coppicerkeep_PowerFine.j0 k l0 a1 a2 t173 t175 (decide (a2 > (l0.length : Int))))) else (coppicerkeep_PowerFine.j0 k l0 a1 a2 t173 t175 false)))) else (coppicerkeep_PowerFine.j0 k l0 a1 a2 t173 t175 true)) else (coppicerkeep_PowerFine.j0 k l0 a1 a2 t173 t175 true)) else (coppicerkeep_PowerFine.j0 k l0 a1 a2 t173 t175 true)))) = some r := H
  have A6 := Aside0.mk A60
  clear A60
  by_cases c7 : t180 = true
  · subst c7
    have H1 : (if t174 = 0 then (some false) else (some (t176 != 0))) = some r := by rw [if_pos rfl] at H; exact H
    clear H
    have H := H1
    clear H1
    by_cases c8 : t174 = 0
    · rw [if_pos c8] at H
      have c8b0 : (t174 == 0) = true := beq_iff_eq.mpr c8
      have c8b1 : (t174 != 0) = false := bne_eq_false_iff_eq.mpr c8
      clear c8
      obtain rfl := Option.some.inj H
      go_enter Try.func5, Try.ntmps5
      go_wp2_with (first | ((with_reducible refine gate_callee (f := 20) rfl ?_); refine goesL_ (some 17) rfl rfl Try.func20 (by kernel_rfl) rfl #[.slice A0 l0.length c0, .int .i64 a1] rfl (by (try simp only [List.map_toArray, List.map_cons, List.map_nil]); first | done | rfl | (simp only [List.length_drop, List.length_take]; rfl)) ?_; (with_reducible refine (power_Period.calls k (fun k_ => (P0_ k_ ∨ w.heap.size ≤ k_)) _ _ l0 a1 t173 t174 _ ?side1 A4.out).mono ?_); (case side1 => exact HO0.out); rintro e w9 ⟨rfl, hb⟩; refine ⟨_, rfl, ?_⟩; have n0_ := Aside0.mk (Kd.V_below (by (with_reducible repeat (first | apply Kd.V_alloc | apply Kd.V_drewN | apply Kd.V_drew)); exact HO0.out) hb); have n1_ := Aside0.mk (below_step (by repeat (first | (with_reducible first | exact HB.out | apply below_alloc | apply pw_below_drewN | apply below_drew1) | exact HB.out)) hb); clear HO0; clear HB; have HO0 := n0_; have HB := n1_; clear n0_ n1_; (try clear hb); (try clear hb2); (try clear hk); (try clear hi)) | ((with_reducible refine gate_callee (f := 20) rfl ?_); refine goesL_ (some 23) rfl rfl Try.func20 (by kernel_rfl) rfl #[.slice A0 l0.length c0, .int .i64 a2] rfl (by (try simp only [List.map_toArray, List.map_cons, List.map_nil]); first | done | rfl | (simp only [List.length_drop, List.length_take]; rfl)) ?_; (with_reducible refine (power_Period.calls k (fun k_ => (P0_ k_ ∨ w.heap.size ≤ k_)) _ _ l0 a2 t175 t176 _ ?side1 A5.out).mono ?_); (case side1 => exact HO0.out); rintro e w10 ⟨rfl, hb⟩; refine ⟨_, rfl, ?_⟩; have n0_ := Aside0.mk (Kd.V_below (by (with_reducible repeat (first | apply Kd.V_alloc | apply Kd.V_drewN | apply Kd.V_drew)); exact HO0.out) hb); have n1_ := Aside0.mk (below_step (by repeat (first | (with_reducible first | exact HB.out | apply below_alloc | apply pw_below_drewN | apply below_drew1) | exact HB.out)) hb); clear HO0; clear HB; have HO0 := n0_; have HB := n1_; clear n0_ n1_; (try clear hb); (try clear hb2); (try clear hk); (try clear hi)) | ((with_reducible refine gate_dst (N := 27) rfl ?_); (try (refine gate_guard (by rfl) ?_; dsimp only)); refine Kd.N_lit (Kd.slice 5 (Kd.int .u8)) _ 22 ?hg (N' := 27) ?hd (xs := ([l0] : List (List Int))) (inner := [.slice A0 l0.length c0]) (ok := (fun k_ => (P0_ k_ ∨ w.heap.size ≤ k_))) (okp := (fun k_ => (P0_ k_ ∨ w.heap.size ≤ k_))) ?hr ?hp (fun _ hk => hk) ((show ∀ k_, w10.heap.size ≤ k_ → (fun k_ => (P0_ k_ ∨ w.heap.size ≤ k_)) k_ from fun k_ hk => (.inr (Nat.le_trans (below_size (by repeat (first | (with_reducible first | exact HB.out | apply below_alloc | apply pw_below_drewN | apply below_drew1) | exact HB.out))) hk))) _ (Nat.le_refl _)) (Below.refl _ _) (Nat.le_refl _) (by simp) ?_; (case hd => rfl); (case hg => rfl); (case hr => first | (go_simp; done) | (go_simp; rfl)); (case hp => first | exact (Reps.one (show Kd.FK (Kd.slice 5 (Kd.int .u8)) _ _ l0 [.slice A0 l0.length c0] from (Kd.FK_slice_mk (Kd.V_reads' (Kd.V_mono (ok' := (fun k_ => (P0_ k_ ∨ w.heap.size ≤ k_))) (HO0.out) (fun k_ hk => hk))).2.1 (Kd.V_F (Kd.V_mono (ok' := (fun k_ => (P0_ k_ ∨ w.heap.size ≤ k_))) (HO0.out) (fun k_ hk => hk))))) (Reps.none _ _)) | exact (Reps.one (show Kd.FK (Kd.slice 5 (Kd.int .u8)) _ _ l0 [.slice A0 l0.length c0] from (Kd.FK_slice_mk (Kd.V_reads' (Kd.V_mono (ok' := (fun k_ => (P0_ k_ ∨ w.heap.size ≤ k_))) (HO0.out) (fun k_ hk => hk))).2.1 (Kd.V_F (Kd.V_mono (ok' := (fun k_ => (P0_ k_ ∨ w.heap.size ≤ k_))) (Kd.V_drewN HO0.out _) (fun k_ hk => hk))))) (Reps.none _ _))); intro v178 w11 ho12 hb hg_ hnew_; clear hg_ hnew_; (first | rw [← Ny177.out] at ho12 | (simp only [Int.reduceToNat] at ho12; rw [← Ny177.out] at ho12)); have n0_ := Aside0.mk (Kd.V_elder' (by (with_reducible repeat (first | apply Kd.V_alloc | apply Kd.V_drewN | apply Kd.V_drew)); exact HO0.out) (Kd.N_base ho12) hb); have n1_ := Aside0.mk (Kd.N_lower ho12 (below_size (by repeat (first | (with_reducible first | exact HB.out | apply below_alloc | apply pw_below_drewN | apply below_drew1) | exact HB.out)))); have n2_ := Aside0.mk (below_step (by repeat (first | (with_reducible first | exact HB.out | apply below_alloc | apply pw_below_drewN | apply below_drew1) | exact HB.out)) hb); clear HO0; clear HB; have HO0 := n0_; have HO179 := n1_; have HB := n2_; clear n0_ n1_ n2_; clear hb ho12; obtain ⟨Ao13, co13, eo13⟩ := Kd.N_slice HO179.out; subst eo13) | ((with_reducible refine gate_callee (f := 21) rfl ?_); refine goesL_ (some 28) rfl rfl Try.func21 (by kernel_rfl) rfl #[.slice Ao13 y177.length co13] rfl (by (try simp only [List.map_toArray, List.map_cons, List.map_nil]); first | done | rfl | (simp only [List.length_drop, List.length_take]; rfl)) ?_; (with_reducible refine (coppicerkeep_long.calls k _ _ y177 true _ ?side1 ?side2 A6.out).mono ?_); (case side1 => repeat (first | exact (Kd.N_reads' HO179.out).2.2 | (with_reducible refine Kd.C_alloc ?_ _) | (with_reducible refine Kd.C_drewN ?_ _) | (with_reducible refine Kd.C_drew ?_))); (case side2 => exact (Kd.N_reads' HO179.out).2.1); rintro e w' ⟨rfl, ⟨nd, rfl⟩⟩; refine ⟨_, rfl, ?_⟩))
      go_ret
      exact ⟨by first | rfl | (simp [errW_none, errW_some] <;> rfl) | (simp [*, errW_none, errW_some] <;> rfl), by repeat (first | (with_reducible first | exact HB.out | apply below_alloc | apply pw_below_drewN | apply below_drew1) | exact HB.out)⟩
    · rw [if_neg c8] at H
      have c8b0 : (t174 == 0) = false := beq_eq_false_iff_ne.mpr c8
      have c8b1 : (t174 != 0) = true := bne_iff_ne.mpr c8
      obtain rfl := Option.some.inj H
      go_enter Try.func5, Try.ntmps5
      go_wp2_with (first | ((with_reducible refine gate_callee (f := 20) rfl ?_); refine goesL_ (some 17) rfl rfl Try.func20 (by kernel_rfl) rfl #[.slice A0 l0.length c0, .int .i64 a1] rfl (by (try simp only [List.map_toArray, List.map_cons, List.map_nil]); first | done | rfl | (simp only [List.length_drop, List.length_take]; rfl)) ?_; (with_reducible refine (power_Period.calls k (fun k_ => (P0_ k_ ∨ w.heap.size ≤ k_)) _ _ l0 a1 t173 t174 _ ?side1 A4.out).mono ?_); (case side1 => exact HO0.out); rintro e w14 ⟨rfl, hb⟩; refine ⟨_, rfl, ?_⟩; have n0_ := Aside0.mk (Kd.V_below (by (with_reducible repeat (first | apply Kd.V_alloc | apply Kd.V_drewN | apply Kd.V_drew)); exact HO0.out) hb); have n1_ := Aside0.mk (below_step (by repeat (first | (with_reducible first | exact HB.out | apply below_alloc | apply pw_below_drewN | apply below_drew1) | exact HB.out)) hb); clear HO0; clear HB; have HO0 := n0_; have HB := n1_; clear n0_ n1_; (try clear hb); (try clear hb2); (try clear hk); (try clear hi)) | ((with_reducible refine gate_callee (f := 20) rfl ?_); refine goesL_ (some 23) rfl rfl Try.func20 (by kernel_rfl) rfl #[.slice A0 l0.length c0, .int .i64 a2] rfl (by (try simp only [List.map_toArray, List.map_cons, List.map_nil]); first | done | rfl | (simp only [List.length_drop, List.length_take]; rfl)) ?_; (with_reducible refine (power_Period.calls k (fun k_ => (P0_ k_ ∨ w.heap.size ≤ k_)) _ _ l0 a2 t175 t176 _ ?side1 A5.out).mono ?_); (case side1 => exact HO0.out); rintro e w15 ⟨rfl, hb⟩; refine ⟨_, rfl, ?_⟩; have n0_ := Aside0.mk (Kd.V_below (by (with_reducible repeat (first | apply Kd.V_alloc | apply Kd.V_drewN | apply Kd.V_drew)); exact HO0.out) hb); have n1_ := Aside0.mk (below_step (by repeat (first | (with_reducible first | exact HB.out | apply below_alloc | apply pw_below_drewN | apply below_drew1) | exact HB.out)) hb); clear HO0; clear HB; have HO0 := n0_; have HB := n1_; clear n0_ n1_; (try clear hb); (try clear hb2); (try clear hk); (try clear hi)) | ((with_reducible refine gate_dst (N := 27) rfl ?_); (try (refine gate_guard (by rfl) ?_; dsimp only)); refine Kd.N_lit (Kd.slice 5 (Kd.int .u8)) _ 22 ?hg (N' := 27) ?hd (xs := ([l0] : List (List Int))) (inner := [.slice A0 l0.length c0]) (ok := (fun k_ => (P0_ k_ ∨ w.heap.size ≤ k_))) (okp := (fun k_ => (P0_ k_ ∨ w.heap.size ≤ k_))) ?hr ?hp (fun _ hk => hk) ((show ∀ k_, w15.heap.size ≤ k_ → (fun k_ => (P0_ k_ ∨ w.heap.size ≤ k_)) k_ from fun k_ hk => (.inr (Nat.le_trans (below_size (by repeat (first | (with_reducible first | exact HB.out | apply below_alloc | apply pw_below_drewN | apply below_drew1) | exact HB.out))) hk))) _ (Nat.le_refl _)) (Below.refl _ _) (Nat.le_refl _) (by simp) ?_; (case hd => rfl); (case hg => rfl); (case hr => first | (go_simp; done) | (go_simp; rfl)); (case hp => first | exact (Reps.one (show Kd.FK (Kd.slice 5 (Kd.int .u8)) _ _ l0 [.slice A0 l0.length c0] from (Kd.FK_slice_mk (Kd.V_reads' (Kd.V_mono (ok' := (fun k_ => (P0_ k_ ∨ w.heap.size ≤ k_))) (HO0.out) (fun k_ hk => hk))).2.1 (Kd.V_F (Kd.V_mono (ok' := (fun k_ => (P0_ k_ ∨ w.heap.size ≤ k_))) (HO0.out) (fun k_ hk => hk))))) (Reps.none _ _)) | exact (Reps.one (show Kd.FK (Kd.slice 5 (Kd.int .u8)) _ _ l0 [.slice A0 l0.length c0] from (Kd.FK_slice_mk (Kd.V_reads' (Kd.V_mono (ok' := (fun k_ => (P0_ k_ ∨ w.heap.size ≤ k_))) (HO0.out) (fun k_ hk => hk))).2.1 (Kd.V_F (Kd.V_mono (ok' := (fun k_ => (P0_ k_ ∨ w.heap.size ≤ k_))) (Kd.V_drewN HO0.out _) (fun k_ hk => hk))))) (Reps.none _ _))); intro v178 w16 ho17 hb hg_ hnew_; clear hg_ hnew_; (first | rw [← Ny177.out] at ho17 | (simp only [Int.reduceToNat] at ho17; rw [← Ny177.out] at ho17)); have n0_ := Aside0.mk (Kd.V_elder' (by (with_reducible repeat (first | apply Kd.V_alloc | apply Kd.V_drewN | apply Kd.V_drew)); exact HO0.out) (Kd.N_base ho17) hb); have n1_ := Aside0.mk (Kd.N_lower ho17 (below_size (by repeat (first | (with_reducible first | exact HB.out | apply below_alloc | apply pw_below_drewN | apply below_drew1) | exact HB.out)))); have n2_ := Aside0.mk (below_step (by repeat (first | (with_reducible first | exact HB.out | apply below_alloc | apply pw_below_drewN | apply below_drew1) | exact HB.out)) hb); clear HO0; clear HB; have HO0 := n0_; have HO179 := n1_; have HB := n2_; clear n0_ n1_ n2_; clear hb ho17; obtain ⟨Ao18, co18, eo18⟩ := Kd.N_slice HO179.out; subst eo18) | ((with_reducible refine gate_callee (f := 21) rfl ?_); refine goesL_ (some 28) rfl rfl Try.func21 (by kernel_rfl) rfl #[.slice Ao18 y177.length co18] rfl (by (try simp only [List.map_toArray, List.map_cons, List.map_nil]); first | done | rfl | (simp only [List.length_drop, List.length_take]; rfl)) ?_; (with_reducible refine (coppicerkeep_long.calls k _ _ y177 true _ ?side1 ?side2 A6.out).mono ?_); (case side1 => repeat (first | exact (Kd.N_reads' HO179.out).2.2 | (with_reducible refine Kd.C_alloc ?_ _) | (with_reducible refine Kd.C_drewN ?_ _) | (with_reducible refine Kd.C_drew ?_))); (case side2 => exact (Kd.N_reads' HO179.out).2.1); rintro e w' ⟨rfl, ⟨nd, rfl⟩⟩; refine ⟨_, rfl, ?_⟩))
      go_ret
      exact ⟨by first | rfl | (simp [errW_none, errW_some] <;> rfl) | (simp [*, errW_none, errW_some] <;> rfl), by repeat (first | (with_reducible first | exact HB.out | apply below_alloc | apply pw_below_drewN | apply below_drew1) | exact HB.out)⟩
  · replace c7 := Bool.eq_false_iff.mpr c7
    subst c7
    have H1 : ((power_Period.f k l0 (l0.length : Int)).bind fun bt181 => (if t174 = 0 then (if t176 = 0 then (if bt181.2 = 0 then (if (bt181.1 != (decide ((l0.length : Int) > 0))) = true then (coppicerkeep_PowerFine.j0 k l0 a1 a2 t173 t175 true) else (if t173 = true then (if a1 < 1 then (coppicerkeep_PowerFine.j0 k l0 a1 a2 t173 t175 true) else (if a1 > (l0.length : Int) then (coppicerkeep_PowerFine.j0 k l0 a1 a2 t173 t175 true) else (if t175 = true then (if a2 < 1 then (coppicerkeep_PowerFine.j0 k l0 a1 a2 t173 t175 true) else (coppicerkeep_PowerFine.j0 k l0 a1 a2 t173 t175 (decide (a2 > (l0.length : Int))))) else (coppicerkeep_PowerFine.j0 k l0 a1 a2 t173 t175 false)))) else (if t175 = true then (if a2 < 1 then (coppicerkeep_PowerFine.j0 k l0 a1 a2 t173 t175 true) else (coppicerkeep_PowerFine.j0 k l0 a1 a2 t173 t175 (decide (a2 > (l0.length : Int))))) else (coppicerkeep_PowerFine.j0 k l0 a1 a2 t173 t175 false)))) else (coppicerkeep_PowerFine.j0 k l0 a1 a2 t173 t175 true)) else (coppicerkeep_PowerFine.j0 k l0 a1 a2 t173 t175 true)) else (coppicerkeep_PowerFine.j0 k l0 a1 a2 t173 t175 true))) = some r := by rw [if_neg (show ¬ (false = true) by decide)] at H; exact H
    clear H
    have H := H1
    clear H1
    replace H := Option.bind_eq_some_iff.mp H
    obtain ⟨⟨t181, t182⟩, A190, H⟩ := H
    replace H : (if t174 = 0 then (if t176 = 0 then (if t182 = 0 then (if (t181 != (decide ((l0.length : Int) > 0))) = true then (coppicerkeep_PowerFine.j0 k l0 a1 a2 t173 t175 true) else (if t173 = true then (if a1 < 1 then (coppicerkeep_PowerFine.j0 k l0 a1 a2 t173 t175 true) else (if a1 > (l0.length : Int) then (coppicerkeep_PowerFine.j0 k l0 a1 a2 t173 t175 true) else (if t175 = true then (if a2 < 1 then (coppicerkeep_PowerFine.j0 k l0 a1 a2 t173 t175 true) else (coppicerkeep_PowerFine.j0 k l0 a1 a2 t173 t175 (decide (a2 > (l0.length : Int))))) else (coppicerkeep_PowerFine.j0 k l0 a1 a2 t173 t175 false)))) else (if t175 = true then (if a2 < 1 then (coppicerkeep_PowerFine.j0 k l0 a1 a2 t173 t175 true) else (coppicerkeep_PowerFine.j0 k l0 a1 a2 t173 t175 (decide (a2 > (l0.length : Int))))) else (coppicerkeep_PowerFine.j0 k l0 a1 a2 t173 t175 false)))) else (coppicerkeep_PowerFine.j0 k l0 a1 a2 t173 t175 true)) else (coppicerkeep_PowerFine.j0 k l0 a1 a2 t173 t175 true)) else (coppicerkeep_PowerFine.j0 k l0 a1 a2 t173 t175 true)) = some r := H
    have A19 := Aside0.mk A190
    clear A190
    have HC20 := Aside0.mk H
    clear H
    go_enter Try.func5, Try.ntmps5
    go_upto_region 6 with (first | ((with_reducible refine gate_callee (f := 20) rfl ?_); refine goesL_ (some 17) rfl rfl Try.func20 (by kernel_rfl) rfl #[.slice A0 l0.length c0, .int .i64 a1] rfl (by (try simp only [List.map_toArray, List.map_cons, List.map_nil]); first | done | rfl | (simp only [List.length_drop, List.length_take]; rfl)) ?_; (with_reducible refine (power_Period.calls k (fun k_ => (P0_ k_ ∨ w.heap.size ≤ k_)) _ _ l0 a1 t173 t174 _ ?side1 A4.out).mono ?_); (case side1 => exact HO0.out); rintro e w21 ⟨rfl, hb⟩; refine ⟨_, rfl, ?_⟩; have n0_ := Aside0.mk (Kd.V_below (by (with_reducible repeat (first | apply Kd.V_alloc | apply Kd.V_drewN | apply Kd.V_drew)); exact HO0.out) hb); have n1_ := Aside0.mk (below_step (by repeat (first | (with_reducible first | exact HB.out | apply below_alloc | apply pw_below_drewN | apply below_drew1) | exact HB.out)) hb); clear HO0; clear HB; have HO0 := n0_; have HB := n1_; clear n0_ n1_; (try clear hb); (try clear hb2); (try clear hk); (try clear hi)) | ((with_reducible refine gate_callee (f := 20) rfl ?_); refine goesL_ (some 23) rfl rfl Try.func20 (by kernel_rfl) rfl #[.slice A0 l0.length c0, .int .i64 a2] rfl (by (try simp only [List.map_toArray, List.map_cons, List.map_nil]); first | done | rfl | (simp only [List.length_drop, List.length_take]; rfl)) ?_; (with_reducible refine (power_Period.calls k (fun k_ => (P0_ k_ ∨ w.heap.size ≤ k_)) _ _ l0 a2 t175 t176 _ ?side1 A5.out).mono ?_); (case side1 => exact HO0.out); rintro e w22 ⟨rfl, hb⟩; refine ⟨_, rfl, ?_⟩; have n0_ := Aside0.mk (Kd.V_below (by (with_reducible repeat (first | apply Kd.V_alloc | apply Kd.V_drewN | apply Kd.V_drew)); exact HO0.out) hb); have n1_ := Aside0.mk (below_step (by repeat (first | (with_reducible first | exact HB.out | apply below_alloc | apply pw_below_drewN | apply below_drew1) | exact HB.out)) hb); clear HO0; clear HB; have HO0 := n0_; have HB := n1_; clear n0_ n1_; (try clear hb); (try clear hb2); (try clear hk); (try clear hi)) | ((with_reducible refine gate_dst (N := 27) rfl ?_); (try (refine gate_guard (by rfl) ?_; dsimp only)); refine Kd.N_lit (Kd.slice 5 (Kd.int .u8)) _ 22 ?hg (N' := 27) ?hd (xs := ([l0] : List (List Int))) (inner := [.slice A0 l0.length c0]) (ok := (fun k_ => (P0_ k_ ∨ w.heap.size ≤ k_))) (okp := (fun k_ => (P0_ k_ ∨ w.heap.size ≤ k_))) ?hr ?hp (fun _ hk => hk) ((show ∀ k_, w22.heap.size ≤ k_ → (fun k_ => (P0_ k_ ∨ w.heap.size ≤ k_)) k_ from fun k_ hk => (.inr (Nat.le_trans (below_size (by repeat (first | (with_reducible first | exact HB.out | apply below_alloc | apply pw_below_drewN | apply below_drew1) | exact HB.out))) hk))) _ (Nat.le_refl _)) (Below.refl _ _) (Nat.le_refl _) (by simp) ?_; (case hd => rfl); (case hg => rfl); (case hr => first | (go_simp; done) | (go_simp; rfl)); (case hp => first | exact (Reps.one (show Kd.FK (Kd.slice 5 (Kd.int .u8)) _ _ l0 [.slice A0 l0.length c0] from (Kd.FK_slice_mk (Kd.V_reads' (Kd.V_mono (ok' := (fun k_ => (P0_ k_ ∨ w.heap.size ≤ k_))) (HO0.out) (fun k_ hk => hk))).2.1 (Kd.V_F (Kd.V_mono (ok' := (fun k_ => (P0_ k_ ∨ w.heap.size ≤ k_))) (HO0.out) (fun k_ hk => hk))))) (Reps.none _ _)) | exact (Reps.one (show Kd.FK (Kd.slice 5 (Kd.int .u8)) _ _ l0 [.slice A0 l0.length c0] from (Kd.FK_slice_mk (Kd.V_reads' (Kd.V_mono (ok' := (fun k_ => (P0_ k_ ∨ w.heap.size ≤ k_))) (HO0.out) (fun k_ hk => hk))).2.1 (Kd.V_F (Kd.V_mono (ok' := (fun k_ => (P0_ k_ ∨ w.heap.size ≤ k_))) (Kd.V_drewN HO0.out _) (fun k_ hk => hk))))) (Reps.none _ _))); intro v178 w23 ho24 hb hg_ hnew_; clear hg_ hnew_; (first | rw [← Ny177.out] at ho24 | (simp only [Int.reduceToNat] at ho24; rw [← Ny177.out] at ho24)); have n0_ := Aside0.mk (Kd.V_elder' (by (with_reducible repeat (first | apply Kd.V_alloc | apply Kd.V_drewN | apply Kd.V_drew)); exact HO0.out) (Kd.N_base ho24) hb); have n1_ := Aside0.mk (Kd.N_lower ho24 (below_size (by repeat (first | (with_reducible first | exact HB.out | apply below_alloc | apply pw_below_drewN | apply below_drew1) | exact HB.out)))); have n2_ := Aside0.mk (below_step (by repeat (first | (with_reducible first | exact HB.out | apply below_alloc | apply pw_below_drewN | apply below_drew1) | exact HB.out)) hb); clear HO0; clear HB; have HO0 := n0_; have HO179 := n1_; have HB := n2_; clear n0_ n1_ n2_; clear hb ho24; obtain ⟨Ao25, co25, eo25⟩ := Kd.N_slice HO179.out; subst eo25) | ((with_reducible refine gate_callee (f := 21) rfl ?_); refine goesL_ (some 28) rfl rfl Try.func21 (by kernel_rfl) rfl #[.slice Ao25 y177.length co25] rfl (by (try simp only [List.map_toArray, List.map_cons, List.map_nil]); first | done | rfl | (simp only [List.length_drop, List.length_take]; rfl)) ?_; (with_reducible refine (coppicerkeep_long.calls k _ _ y177 false _ ?side1 ?side2 A6.out).mono ?_); (case side1 => repeat (first | exact (Kd.N_reads' HO179.out).2.2 | (with_reducible refine Kd.C_alloc ?_ _) | (with_reducible refine Kd.C_drewN ?_ _) | (with_reducible refine Kd.C_drew ?_))); (case side2 => exact (Kd.N_reads' HO179.out).2.1); rintro e w' ⟨rfl, ⟨nd, rfl⟩⟩; refine ⟨_, rfl, ?_⟩) | ((with_reducible refine gate_callee (f := 20) rfl ?_); refine goesL_ (some 39) rfl rfl Try.func20 (by kernel_rfl) rfl #[.slice A0 l0.length c0, .int .i64 (l0.length : Int)] rfl (by (try simp only [List.map_toArray, List.map_cons, List.map_nil]); first | done | rfl | (simp only [List.length_drop, List.length_take]; rfl)) ?_; (with_reducible refine (power_Period.calls k (fun k_ => ((P0_ k_ ∨ w.heap.size ≤ k_) ∧ some k_ ≠ (.slice Ao25 y177.length co25 : Value).ownBlock)) _ _ l0 (l0.length : Int) t181 t182 _ ?side1 A19.out).mono ?_); (case side1 => exact HO0.out); rintro e w26 ⟨rfl, hb⟩; refine ⟨_, rfl, ?_⟩; have n0_ := Aside0.mk (Kd.V_below (by (with_reducible repeat (first | apply Kd.V_alloc | apply Kd.V_drewN | apply Kd.V_drew)); exact HO0.out) hb); have n1_ := Aside0.mk (Kd.N_below (by (with_reducible repeat (first | apply Kd.N_alloc | apply Kd.N_drewN | apply Kd.N_drew)); exact HO179.out) hb); have n2_ := Aside0.mk (below_step (by repeat (first | (with_reducible first | exact HB.out | apply below_alloc | apply pw_below_drewN | apply below_drew1) | exact HB.out)) hb); clear HO0; clear HO179; clear HB; have HO0 := n0_; have HO179 := n1_; have HB := n2_; clear n0_ n1_ n2_; (try clear hb); (try clear hb2); (try clear hk); (try clear hi)))
    (try simp only [Act.put, List.setIfInBounds_toArray, List.set_cons_zero, List.set_cons_succ])
    go_cut [84] (fun v84 wc => ∃ (kq : Nat) (x84_19 : Bool), v84 = .bool x84_19 ∧ Aside0 (coppicerkeep_PowerFine.j0 kq l0 a1 a2 t173 t175 x84_19 = some r) ∧ Aside0 (kq ≤ k) ∧ Aside0 (Kd.V (Kd.int .u8) 5 wc w.heap.size (fun k_ => (P0_ k_ ∨ w.heap.size ≤ k_)) (.slice A0 l0.length c0) l0) ∧ Aside0 (Below w.heap.size w wc))
    case first =>
      have H := HC20.out
      clear HC20
      by_cases c27 : t174 = 0
      · rw [if_pos c27] at H
        have c27b0 : (t174 == 0) = true := beq_iff_eq.mpr c27
        have c27b1 : (t174 != 0) = false := bne_eq_false_iff_eq.mpr c27
        clear c27
        (first | rw [c27b0] | (simp only [i64_w, i32_w]; rw [c27b0]) | skip)
        by_cases c28 : t176 = 0
        · rw [if_pos c28] at H
          have c28b0 : (t176 == 0) = true := beq_iff_eq.mpr c28
          have c28b1 : (t176 != 0) = false := bne_eq_false_iff_eq.mpr c28
          clear c28
          by_cases c29 : t182 = 0
          · rw [if_pos c29] at H
            have c29b0 : (t182 == 0) = true := beq_iff_eq.mpr c29
            have c29b1 : (t182 != 0) = false := bne_eq_false_iff_eq.mpr c29
            clear c29
            by_cases c30 : (t181 != (decide ((l0.length : Int) > 0))) = true
            · rw [if_pos c30] at H
              have c30b0 : (t181 != (decide ((l0.length : Int) > 0))) = true := c30
              (try (have c30b1 : decide (t181 = (decide ((l0.length : Int) > 0))) = false := by simpa using c30))
              (try (have c30b2 : (t181 == (decide ((l0.length : Int) > 0))) = false := by simpa using c30))
              (try (have c30b3 : ¬ (t181 = (decide ((l0.length : Int) > 0))) := by simpa using c30))
              (try (have c30b0s := c30b0; simp only [gt_iff_lt, ge_iff_le, Int.natCast_pos, Int.ofNat_lt, Int.ofNat_le] at c30b0s))
              (try (have c30b1s := c30b1; simp only [gt_iff_lt, ge_iff_le, Int.natCast_pos, Int.ofNat_lt, Int.ofNat_le] at c30b1s))
              (try (have c30b2s := c30b2; simp only [gt_iff_lt, ge_iff_le, Int.natCast_pos, Int.ofNat_lt, Int.ofNat_le] at c30b2s))
              (try (have c30b3s := c30b3; simp only [gt_iff_lt, ge_iff_le, Int.natCast_pos, Int.ofNat_lt, Int.ofNat_le] at c30b3s))
              clear c30
              have H' := Aside0.mk H
              clear H
              go_wp2
              go_meet
              case rel => exact ⟨_, (true), (by first | rfl | (simp; done) | (simp [*]; done)), H', ⟨by first | omega | exact Nat.le_refl _⟩, ⟨by (with_reducible repeat (first | apply Kd.V_alloc | apply Kd.V_drewN | apply Kd.V_drew)); exact Kd.V_mono HO0.out (fun _ hk => hk.1)⟩, ⟨by repeat (first | (with_reducible first | exact HB.out | apply below_alloc | apply pw_below_drewN | apply below_drew1) | exact HB.out)⟩⟩
            · rw [if_neg c30] at H
              have c30b0 : (t181 != (decide ((l0.length : Int) > 0))) = false := by simpa using c30
              (try (have c30b0s := c30b0; simp only [gt_iff_lt, ge_iff_le, Int.natCast_pos, Int.ofNat_lt, Int.ofNat_le] at c30b0s))
              (try (have c30rv : (decide ((l0.length : Int) > 0)) = t181 := (by (symm; simpa using c30)); (try simp only [gt_iff_lt, ge_iff_le, Int.natCast_pos, Int.ofNat_lt, Int.ofNat_le] at c30rv)))
              clear c30
              by_cases c31 : t173 = true
              · subst c31
                have H1 : (if a1 < 1 then (coppicerkeep_PowerFine.j0 k l0 a1 a2 true t175 true) else (if a1 > (l0.length : Int) then (coppicerkeep_PowerFine.j0 k l0 a1 a2 true t175 true) else (if t175 = true then (if a2 < 1 then (coppicerkeep_PowerFine.j0 k l0 a1 a2 true t175 true) else (coppicerkeep_PowerFine.j0 k l0 a1 a2 true t175 (decide (a2 > (l0.length : Int))))) else (coppicerkeep_PowerFine.j0 k l0 a1 a2 true t175 false)))) = some r := by rw [if_pos rfl] at H; exact H
                clear H
                have H := H1
                clear H1
                by_cases c32 : a1 < 1
                · rw [if_pos c32] at H
                  have c32b0 : decide (a1 < 1) = true := decide_eq_true c32
                  clear c32
                  have H' := Aside0.mk H
                  clear H
                  go_wp2
                  go_meet
                  case rel => exact ⟨_, (true), (by first | rfl | (simp; done) | (simp [*]; done)), H', ⟨by first | omega | exact Nat.le_refl _⟩, ⟨by (with_reducible repeat (first | apply Kd.V_alloc | apply Kd.V_drewN | apply Kd.V_drew)); exact Kd.V_mono HO0.out (fun _ hk => hk.1)⟩, ⟨by repeat (first | (with_reducible first | exact HB.out | apply below_alloc | apply pw_below_drewN | apply below_drew1) | exact HB.out)⟩⟩
                · rw [if_neg c32] at H
                  have c32b0 : decide (a1 < 1) = false := decide_eq_false c32
                  clear c32
                  by_cases c33 : a1 > (l0.length : Int)
                  · rw [if_pos c33] at H
                    have c33b0 : decide ((l0.length : Int) < a1) = true := decide_eq_true c33
                    clear c33
                    have H' := Aside0.mk H
                    clear H
                    go_wp2
                    go_meet
                    case rel => exact ⟨_, (true), (by first | rfl | (simp; done) | (simp [*]; done)), H', ⟨by first | omega | exact Nat.le_refl _⟩, ⟨by (with_reducible repeat (first | apply Kd.V_alloc | apply Kd.V_drewN | apply Kd.V_drew)); exact Kd.V_mono HO0.out (fun _ hk => hk.1)⟩, ⟨by repeat (first | (with_reducible first | exact HB.out | apply below_alloc | apply pw_below_drewN | apply below_drew1) | exact HB.out)⟩⟩
                  · rw [if_neg c33] at H
                    have c33b0 : decide ((l0.length : Int) < a1) = false := decide_eq_false c33
                    clear c33
                    by_cases c34 : t175 = true
                    · subst c34
                      have H1 : (if a2 < 1 then (coppicerkeep_PowerFine.j0 k l0 a1 a2 true true true) else (coppicerkeep_PowerFine.j0 k l0 a1 a2 true true (decide (a2 > (l0.length : Int))))) = some r := by rw [if_pos rfl] at H; exact H
                      clear H
                      have H := H1
                      clear H1
                      by_cases c35 : a2 < 1
                      · rw [if_pos c35] at H
                        have c35b0 : decide (a2 < 1) = true := decide_eq_true c35
                        clear c35
                        have H' := Aside0.mk H
                        clear H
                        go_wp2
                        go_meet
                        case rel => exact ⟨_, (true), (by first | rfl | (simp; done) | (simp [*]; done)), H', ⟨by first | omega | exact Nat.le_refl _⟩, ⟨by (with_reducible repeat (first | apply Kd.V_alloc | apply Kd.V_drewN | apply Kd.V_drew)); exact Kd.V_mono HO0.out (fun _ hk => hk.1)⟩, ⟨by repeat (first | (with_reducible first | exact HB.out | apply below_alloc | apply pw_below_drewN | apply below_drew1) | exact HB.out)⟩⟩
                      · rw [if_neg c35] at H
                        have c35b0 : decide (a2 < 1) = false := decide_eq_false c35
                        clear c35
                        have H' := Aside0.mk H
                        clear H
                        go_wp2
                        go_meet
                        case rel => exact ⟨_, (decide (a2 > (l0.length : Int))), (by first | rfl | (simp; done) | (simp [*]; done)), H', ⟨by first | omega | exact Nat.le_refl _⟩, ⟨by (with_reducible repeat (first | apply Kd.V_alloc | apply Kd.V_drewN | apply Kd.V_drew)); exact Kd.V_mono HO0.out (fun _ hk => hk.1)⟩, ⟨by repeat (first | (with_reducible first | exact HB.out | apply below_alloc | apply pw_below_drewN | apply below_drew1) | exact HB.out)⟩⟩
                    · replace c34 := Bool.eq_false_iff.mpr c34
                      subst c34
                      have H1 : (coppicerkeep_PowerFine.j0 k l0 a1 a2 true false false) = some r := by rw [if_neg (show ¬ (false = true) by decide)] at H; exact H
                      clear H
                      have H := H1
                      clear H1
                      have H' := Aside0.mk H
                      clear H
                      go_wp2
                      go_meet
                      case rel => exact ⟨_, (false), (by first | rfl | (simp; done) | (simp [*]; done)), H', ⟨by first | omega | exact Nat.le_refl _⟩, ⟨by (with_reducible repeat (first | apply Kd.V_alloc | apply Kd.V_drewN | apply Kd.V_drew)); exact Kd.V_mono HO0.out (fun _ hk => hk.1)⟩, ⟨by repeat (first | (with_reducible first | exact HB.out | apply below_alloc | apply pw_below_drewN | apply below_drew1) | exact HB.out)⟩⟩
              · replace c31 := Bool.eq_false_iff.mpr c31
                subst c31
                have H1 : (if t175 = true then (if a2 < 1 then (coppicerkeep_PowerFine.j0 k l0 a1 a2 false t175 true) else (coppicerkeep_PowerFine.j0 k l0 a1 a2 false t175 (decide (a2 > (l0.length : Int))))) else (coppicerkeep_PowerFine.j0 k l0 a1 a2 false t175 false)) = some r := by rw [if_neg (show ¬ (false = true) by decide)] at H; exact H
                clear H
                have H := H1
                clear H1
                by_cases c36 : t175 = true
                · subst c36
                  have H1 : (if a2 < 1 then (coppicerkeep_PowerFine.j0 k l0 a1 a2 false true true) else (coppicerkeep_PowerFine.j0 k l0 a1 a2 false true (decide (a2 > (l0.length : Int))))) = some r := by rw [if_pos rfl] at H; exact H
                  clear H
                  have H := H1
                  clear H1
                  by_cases c37 : a2 < 1
                  · rw [if_pos c37] at H
                    have c37b0 : decide (a2 < 1) = true := decide_eq_true c37
                    clear c37
                    have H' := Aside0.mk H
                    clear H
                    go_wp2
                    go_meet
                    case rel => exact ⟨_, (true), (by first | rfl | (simp; done) | (simp [*]; done)), H', ⟨by first | omega | exact Nat.le_refl _⟩, ⟨by (with_reducible repeat (first | apply Kd.V_alloc | apply Kd.V_drewN | apply Kd.V_drew)); exact Kd.V_mono HO0.out (fun _ hk => hk.1)⟩, ⟨by repeat (first | (with_reducible first | exact HB.out | apply below_alloc | apply pw_below_drewN | apply below_drew1) | exact HB.out)⟩⟩
                  · rw [if_neg c37] at H
                    have c37b0 : decide (a2 < 1) = false := decide_eq_false c37
                    clear c37
                    have H' := Aside0.mk H
                    clear H
                    go_wp2
                    go_meet
                    case rel => exact ⟨_, (decide (a2 > (l0.length : Int))), (by first | rfl | (simp; done) | (simp [*]; done)), H', ⟨by first | omega | exact Nat.le_refl _⟩, ⟨by (with_reducible repeat (first | apply Kd.V_alloc | apply Kd.V_drewN | apply Kd.V_drew)); exact Kd.V_mono HO0.out (fun _ hk => hk.1)⟩, ⟨by repeat (first | (with_reducible first | exact HB.out | apply below_alloc | apply pw_below_drewN | apply below_drew1) | exact HB.out)⟩⟩
                · replace c36 := Bool.eq_false_iff.mpr c36
                  subst c36
                  have H1 : (coppicerkeep_PowerFine.j0 k l0 a1 a2 false false false) = some r := by rw [if_neg (show ¬ (false = true) by decide)] at H; exact H
                  clear H
                  have H := H1
                  clear H1
                  have H' := Aside0.mk H
                  clear H
                  go_wp2
                  go_meet
                  case rel => exact ⟨_, (false), (by first | rfl | (simp; done) | (simp [*]; done)), H', ⟨by first | omega | exact Nat.le_refl _⟩, ⟨by (with_reducible repeat (first | apply Kd.V_alloc | apply Kd.V_drewN | apply Kd.V_drew)); exact Kd.V_mono HO0.out (fun _ hk => hk.1)⟩, ⟨by repeat (first | (with_reducible first | exact HB.out | apply below_alloc | apply pw_below_drewN | apply below_drew1) | exact HB.out)⟩⟩
          · rw [if_neg c29] at H
            have c29b0 : (t182 == 0) = false := beq_eq_false_iff_ne.mpr c29
            have c29b1 : (t182 != 0) = true := bne_iff_ne.mpr c29
            have H' := Aside0.mk H
            clear H
            go_wp2
            go_meet
            case rel => exact ⟨_, (true), (by first | rfl | (simp; done) | (simp [*]; done)), H', ⟨by first | omega | exact Nat.le_refl _⟩, ⟨by (with_reducible repeat (first | apply Kd.V_alloc | apply Kd.V_drewN | apply Kd.V_drew)); exact Kd.V_mono HO0.out (fun _ hk => hk.1)⟩, ⟨by repeat (first | (with_reducible first | exact HB.out | apply below_alloc | apply pw_below_drewN | apply below_drew1) | exact HB.out)⟩⟩
        · rw [if_neg c28] at H
          have c28b0 : (t176 == 0) = false := beq_eq_false_iff_ne.mpr c28
          have c28b1 : (t176 != 0) = true := bne_iff_ne.mpr c28
          have H' := Aside0.mk H
          clear H
          go_wp2
          go_meet
          case rel => exact ⟨_, (true), (by first | rfl | (simp; done) | (simp [*]; done)), H', ⟨by first | omega | exact Nat.le_refl _⟩, ⟨by (with_reducible repeat (first | apply Kd.V_alloc | apply Kd.V_drewN | apply Kd.V_drew)); exact Kd.V_mono HO0.out (fun _ hk => hk.1)⟩, ⟨by repeat (first | (with_reducible first | exact HB.out | apply below_alloc | apply pw_below_drewN | apply below_drew1) | exact HB.out)⟩⟩
      · rw [if_neg c27] at H
        have c27b0 : (t174 == 0) = false := beq_eq_false_iff_ne.mpr c27
        have c27b1 : (t174 != 0) = true := bne_iff_ne.mpr c27
        (first | rw [c27b0] | (simp only [i64_w, i32_w]; rw [c27b0]) | skip)
        have H' := Aside0.mk H
        clear H
        go_wp2
        go_meet
        case rel => exact ⟨_, (true), (by first | rfl | (simp; done) | (simp [*]; done)), H', ⟨by first | omega | exact Nat.le_refl _⟩, ⟨by (with_reducible repeat (first | apply Kd.V_alloc | apply Kd.V_drewN | apply Kd.V_drew)); exact Kd.V_mono HO0.out (fun _ hk => hk.1)⟩, ⟨by repeat (first | (with_reducible first | exact HB.out | apply below_alloc | apply pw_below_drewN | apply below_drew1) | exact HB.out)⟩⟩
    case rest =>
      clear HC20
      try clear c2
      try clear p2
      try clear c3
      try clear c5
      try clear c7
      try clear c8
      try clear c8b0
      try clear c8b1
      try clear c20
      try clear c21
      try clear c27
      try clear c27b0
      try clear c27b1
      try clear c28
      try clear c28b0
      try clear c28b1
      try clear c29
      try clear c29b0
      try clear c29b1
      try clear c30
      try clear c30b0
      try clear c30b1
      try clear c30b2
      try clear c31
      try clear c32
      try clear c32b0
      try clear c33
      try clear c33b0
      try clear c34
      try clear c35
      try clear c35b0
      try clear c36
      try clear c37
      try clear c37b0
      obtain ⟨kq, x84_19, rfl, HA, HJ19, HO_0, HB⟩ := hcut
      cases kq with
      | zero => exact absurd HA.out (by simp [coppicerkeep_PowerFine.j0])
      | succ kj19 =>
        have H := HA.out
        clear HA
        simp only [coppicerkeep_PowerFine.j0] at H
        by_cases c38 : x84_19 = true
        · subst c38
          have H1 : (some false) = some r := by rw [if_pos rfl] at H; exact H
          clear H
          have H := H1
          clear H1
          obtain rfl := Option.some.inj H
          go_wp2
          go_ret
          exact ⟨by first | rfl | (simp [errW_none, errW_some] <;> rfl) | (simp [*, errW_none, errW_some] <;> rfl), by repeat (first | (with_reducible first | exact HB.out | apply below_alloc | apply pw_below_drewN | apply below_drew1) | exact HB.out)⟩
        · replace c38 := Bool.eq_false_iff.mpr c38
          subst c38
          have H1 : (if t173 = true then (if t175 = true then ((coppicerkeep_gcd.f kj19 a1 a2).bind fun t183 => (coppicerkeep_PowerFine.j1 kj19 l0 a1 a2 (decide ((wrap64 ((wrap64 (a1 + a2)) - t183)) > (l0.length : Int))))) else (coppicerkeep_PowerFine.j1 kj19 l0 a1 a2 true)) else (coppicerkeep_PowerFine.j1 kj19 l0 a1 a2 true)) = some r := by rw [if_neg (show ¬ (false = true) by decide)] at H; exact H
          clear H
          have H := H1
          clear H1
          have HC39 := Aside0.mk H
          clear H
          go_upto_region 8 with (fail)
          go_cut [102] (fun v102 wc => ∃ (kq : Nat) (x102_38 : Bool), v102 = .bool x102_38 ∧ Aside0 (coppicerkeep_PowerFine.j1 kq l0 a1 a2 x102_38 = some r) ∧ Aside0 (kq ≤ kj19) ∧ Aside0 (Kd.V (Kd.int .u8) 5 wc w.heap.size (fun k_ => (P0_ k_ ∨ w.heap.size ≤ k_)) (.slice A0 l0.length c0) l0) ∧ Aside0 (Below w.heap.size w wc))
          case first =>
            have H := HC39.out
            clear HC39
            by_cases c40 : t173 = true
            · subst c40
              have H1 : (if t175 = true then ((coppicerkeep_gcd.f kj19 a1 a2).bind fun t183 => (coppicerkeep_PowerFine.j1 kj19 l0 a1 a2 (decide ((wrap64 ((wrap64 (a1 + a2)) - t183)) > (l0.length : Int))))) else (coppicerkeep_PowerFine.j1 kj19 l0 a1 a2 true)) = some r := by rw [if_pos rfl] at H; exact H
              clear H
              have H := H1
              clear H1
              by_cases c41 : t175 = true
              · subst c41
                have H1 : ((coppicerkeep_gcd.f kj19 a1 a2).bind fun t183 => (coppicerkeep_PowerFine.j1 kj19 l0 a1 a2 (decide ((wrap64 ((wrap64 (a1 + a2)) - t183)) > (l0.length : Int))))) = some r := by rw [if_pos rfl] at H; exact H
                clear H
                have H := H1
                clear H1
                replace H := Option.bind_eq_some_iff.mp H
                obtain ⟨t183, A420, H⟩ := H
                replace H : (coppicerkeep_PowerFine.j1 kj19 l0 a1 a2 (decide ((wrap64 ((wrap64 (a1 + a2)) - t183)) > (l0.length : Int)))) = some r := H
                have A42 := Aside0.mk A420
                clear A420
                have H' := Aside0.mk H
                clear H
                go_wp2_with (first | (go_at_call 22; (with_reducible refine (coppicerkeep_gcd.calls kj19 a1 a2 t183 _ A42.out).mono ?_); rintro e w' ⟨rfl, ⟨nd, rfl⟩⟩))
                go_meet
                case rel => exact ⟨_, (decide ((wrap64 ((wrap64 (a1 + a2)) - t183)) > (l0.length : Int))), (by first | rfl | (simp; done) | (simp [*]; done)), H', ⟨by have := HJ19.out; first | omega | exact Nat.le_refl _⟩, ⟨by (with_reducible repeat (first | apply Kd.V_alloc | apply Kd.V_drewN | apply Kd.V_drew)); exact HO_0.out⟩, ⟨by repeat (first | (with_reducible first | exact HB.out | apply below_alloc | apply pw_below_drewN | apply below_drew1) | exact HB.out)⟩⟩
              · replace c41 := Bool.eq_false_iff.mpr c41
                subst c41
                have H1 : (coppicerkeep_PowerFine.j1 kj19 l0 a1 a2 true) = some r := by rw [if_neg (show ¬ (false = true) by decide)] at H; exact H
                clear H
                have H := H1
                clear H1
                have H' := Aside0.mk H
                clear H
                go_wp2
                go_meet
                case rel => exact ⟨_, (true), (by first | rfl | (simp; done) | (simp [*]; done)), H', ⟨by have := HJ19.out; first | omega | exact Nat.le_refl _⟩, ⟨by (with_reducible repeat (first | apply Kd.V_alloc | apply Kd.V_drewN | apply Kd.V_drew)); exact HO_0.out⟩, ⟨by repeat (first | (with_reducible first | exact HB.out | apply below_alloc | apply pw_below_drewN | apply below_drew1) | exact HB.out)⟩⟩
            · replace c40 := Bool.eq_false_iff.mpr c40
              subst c40
              have H1 : (coppicerkeep_PowerFine.j1 kj19 l0 a1 a2 true) = some r := by rw [if_neg (show ¬ (false = true) by decide)] at H; exact H
              clear H
              have H := H1
              clear H1
              have H' := Aside0.mk H
              clear H
              go_wp2
              go_meet
              case rel => exact ⟨_, (true), (by first | rfl | (simp; done) | (simp [*]; done)), H', ⟨by have := HJ19.out; first | omega | exact Nat.le_refl _⟩, ⟨by (with_reducible repeat (first | apply Kd.V_alloc | apply Kd.V_drewN | apply Kd.V_drew)); exact HO_0.out⟩, ⟨by repeat (first | (with_reducible first | exact HB.out | apply below_alloc | apply pw_below_drewN | apply below_drew1) | exact HB.out)⟩⟩
          case rest =>
            clear HC39
            try clear c2
            try clear p2
            try clear c3
            try clear c4
            try clear c5
            try clear p6
            try clear c7
            try clear c8
            try clear c8b0
            try clear c8b1
            try clear c20
            try clear c21
            try clear c27
            try clear c27b0
            try clear c27b1
            try clear c28
            try clear c28b0
            try clear c28b1
            try clear c29
            try clear c29b0
            try clear c29b1
            try clear c30
            try clear c30b0
            try clear c30b1
            try clear c30b2
            try clear c31
            try clear c32
            try clear c32b0
            try clear c33
            try clear c33b0
            try clear c34
            try clear c35
            try clear c35b0
            try clear c36
            try clear c37
            try clear c37b0
            try clear c38
            try clear c40
            try clear c41
            try clear p2
            obtain ⟨kq, x102_38, rfl, HA, HJ38, HO_0, HB⟩ := hcut
            cases kq with
            | zero => exact absurd HA.out (by simp [coppicerkeep_PowerFine.j1])
            | succ kj38 =>
              have H := HA.out
              clear HA
              simp only [coppicerkeep_PowerFine.j1] at H
              by_cases c43 : x102_38 = true
              · subst c43
                have H1 : (some true) = some r := by rw [if_pos rfl] at H; exact H
                clear H
                have H := H1
                clear H1
                obtain rfl := Option.some.inj H
                go_wp2
                go_ret
                exact ⟨by first | rfl | (simp [errW_none, errW_some] <;> rfl) | (simp [*, errW_none, errW_some] <;> rfl), by repeat (first | (with_reducible first | exact HB.out | apply below_alloc | apply pw_below_drewN | apply below_drew1) | exact HB.out)⟩
              · replace c43 := Bool.eq_false_iff.mpr c43
                subst c43
                have H1 : ((coppicerkeep_gcd.f kj38 a1 a2).bind fun t184 => ((power_Period.f kj38 l0 t184).bind fun bt185 => (if bt185.2 = 0 then (some bt185.1) else (some false)))) = some r := by rw [if_neg (show ¬ (false = true) by decide)] at H; exact H
                clear H
                have H := H1
                clear H1
                replace H := Option.bind_eq_some_iff.mp H
                obtain ⟨t184, A440, H⟩ := H
                replace H : ((power_Period.f kj38 l0 t184).bind fun bt185 => (if bt185.2 = 0 then (some bt185.1) else (some false))) = some r := H
                have A44 := Aside0.mk A440
                clear A440
                replace H := Option.bind_eq_some_iff.mp H
                obtain ⟨⟨t185, t186⟩, A450, H⟩ := H
                replace H : (if t186 = 0 then (some t185) else (some false)) = some r := H
                have A45 := Aside0.mk A450
                clear A450
                by_cases c46 : t186 = 0
                · rw [if_pos c46] at H
                  have c46b0 : (t186 == 0) = true := beq_iff_eq.mpr c46
                  have c46b1 : (t186 != 0) = false := bne_eq_false_iff_eq.mpr c46
                  clear c46
                  obtain rfl := Option.some.inj H
                  go_wp2_with (first | ((with_reducible refine gate_callee (f := 22) rfl ?_); refine goesL_ (some 107) rfl rfl Try.func22 (by kernel_rfl) rfl #[.int .i64 a1, .int .i64 a2] rfl (by (try simp only [List.map_toArray, List.map_cons, List.map_nil]); first | done | rfl | (simp only [List.length_drop, List.length_take]; rfl)) ?_; (with_reducible refine (coppicerkeep_gcd.calls kj38 a1 a2 t184 _ A44.out).mono ?_); rintro e w' ⟨rfl, ⟨nd, rfl⟩⟩; refine ⟨_, rfl, ?_⟩) | ((with_reducible refine gate_callee (f := 20) rfl ?_); refine goesL_ (some 108) rfl rfl Try.func20 (by kernel_rfl) rfl #[.slice A0 l0.length c0, .int .i64 t184] rfl (by (try simp only [List.map_toArray, List.map_cons, List.map_nil]); first | done | rfl | (simp only [List.length_drop, List.length_take]; rfl)) ?_; (with_reducible refine (power_Period.calls kj38 (fun k_ => (P0_ k_ ∨ w.heap.size ≤ k_)) _ _ l0 t184 t185 t186 _ ?side1 A45.out).mono ?_); (case side1 => exact HO_0.out); rintro e w47 ⟨rfl, hb⟩; refine ⟨_, rfl, ?_⟩; have n0_ := Aside0.mk (Kd.V_below (by (with_reducible repeat (first | apply Kd.V_alloc | apply Kd.V_drewN | apply Kd.V_drew)); exact HO_0.out) hb); have n1_ := Aside0.mk (below_step (by repeat (first | (with_reducible first | exact HB.out | apply below_alloc | apply pw_below_drewN | apply below_drew1) | exact HB.out)) hb); clear HO_0; clear HB; have HO_0 := n0_; have HB := n1_; clear n0_ n1_; (try clear hb); (try clear hb2); (try clear hk); (try clear hi)))
                  go_ret
                  exact ⟨by first | rfl | (simp [errW_none, errW_some] <;> rfl) | (simp [*, errW_none, errW_some] <;> rfl), by repeat (first | (with_reducible first | exact HB.out | apply below_alloc | apply pw_below_drewN | apply below_drew1) | exact HB.out)⟩
                · rw [if_neg c46] at H
                  have c46b0 : (t186 == 0) = false := beq_eq_false_iff_ne.mpr c46
                  have c46b1 : (t186 != 0) = true := bne_iff_ne.mpr c46
                  obtain rfl := Option.some.inj H
                  go_wp2_with (first | ((with_reducible refine gate_callee (f := 22) rfl ?_); refine goesL_ (some 107) rfl rfl Try.func22 (by kernel_rfl) rfl #[.int .i64 a1, .int .i64 a2] rfl (by (try simp only [List.map_toArray, List.map_cons, List.map_nil]); first | done | rfl | (simp only [List.length_drop, List.length_take]; rfl)) ?_; (with_reducible refine (coppicerkeep_gcd.calls kj38 a1 a2 t184 _ A44.out).mono ?_); rintro e w' ⟨rfl, ⟨nd, rfl⟩⟩; refine ⟨_, rfl, ?_⟩) | ((with_reducible refine gate_callee (f := 20) rfl ?_); refine goesL_ (some 108) rfl rfl Try.func20 (by kernel_rfl) rfl #[.slice A0 l0.length c0, .int .i64 t184] rfl (by (try simp only [List.map_toArray, List.map_cons, List.map_nil]); first | done | rfl | (simp only [List.length_drop, List.length_take]; rfl)) ?_; (with_reducible refine (power_Period.calls kj38 (fun k_ => (P0_ k_ ∨ w.heap.size ≤ k_)) _ _ l0 t184 t185 t186 _ ?side1 A45.out).mono ?_); (case side1 => exact HO_0.out); rintro e w48 ⟨rfl, hb⟩; refine ⟨_, rfl, ?_⟩; have n0_ := Aside0.mk (Kd.V_below (by (with_reducible repeat (first | apply Kd.V_alloc | apply Kd.V_drewN | apply Kd.V_drew)); exact HO_0.out) hb); have n1_ := Aside0.mk (below_step (by repeat (first | (with_reducible first | exact HB.out | apply below_alloc | apply pw_below_drewN | apply below_drew1) | exact HB.out)) hb); clear HO_0; clear HB; have HO_0 := n0_; have HB := n1_; clear n0_ n1_; (try clear hb); (try clear hb2); (try clear hk); (try clear hi)))
                  go_ret
                  exact ⟨by first | rfl | (simp [errW_none, errW_some] <;> rfl) | (simp [*, errW_none, errW_some] <;> rfl), by repeat (first | (with_reducible first | exact HB.out | apply below_alloc | apply pw_below_drewN | apply below_drew1) | exact HB.out)⟩

/-- THE ONE PURE STATEMENT of coppicerkeep_PowerFine: yours. -/
def coppicerkeep_PowerFine.Pure : Prop := ∀ (l0 : List Int) (a1 : Int) (a2 : Int), (l0.length ≤ 9223372036854775807 ∧ l0.length * 1 ≤ 140737488351232 ∧ ∀ y_ ∈ l0, (Lit.int .u8 y_).wf = true) → ((Lit.int .i64 a1).wf = true) → ((Lit.int .i64 a2).wf = true) → ∃ k, coppicerkeep_PowerFine.f k l0 a1 a2 = some true
theorem coppicerkeep_PowerFine.walk (P : coppicerkeep_PowerFine.Pure) (A0 : Option Addr) (l0 : List Int) (c0 : Nat) (a1 : Int) (a2 : Int) (w : World) (hr0 : Kd.C (Kd.int .u8) w A0 l0.length l0) (hc0 : l0.length ≤ c0) (w0 : l0.length ≤ 9223372036854775807 ∧ l0.length * 1 ≤ 140737488351232 ∧ ∀ y_ ∈ l0, (Lit.int .u8 y_).wf = true) (w1 : (Lit.int .i64 a1).wf = true) (w2 : (Lit.int .i64 a2).wf = true) :
    Calls Try.prog 5 #[.slice A0 l0.length c0, .int .i64 a1, .int .i64 a2] w fun e w' => e = .returned (.bool true) ∧ Below w.heap.size w w' := by
  obtain ⟨k, h⟩ := P l0 a1 a2 w0 w1 w2
  refine (coppicerkeep_PowerFine.calls k _ _ _ _ _ _ true w (Kd.C_V (Kd.heap_int .u8) hr0 hc0) h).mono ?_
  rintro e w' ⟨rfl, hd⟩
  exact ⟨rfl, hd⟩

end Go.Proofs.Ytancbigkdjbhnaa.GA
