-- Written by ext.py, a program of this session.
import Derived.Test.YthgiiikjcfhgjaaGC0
import Derived.Test.YthgiiikjcfhgjaaGC4
namespace Go.Proofs.Ythgiiikjcfhgjaa.GC
open Go.RowKit Go.Proofs.YthgiiikjcfhgjaaW.PrintWords Go.Proofs.YthgiiikjcfhgjaaW.PrintLast Go.Proofs.YthgiiikjcfhgjaaW.PrintMore
attribute [local go_sem] max2_int min2_int max_two min_two max_three min_three max_four min_four cellIs_set   -- for this text's walks alone
set_option linter.unusedVariables false
set_option linter.unusedSimpArgs false

/-! ### coppicerkeep_operated: function 16 -/
def coppicerkeep_operated.f (k : Nat) (l0 : List (S94)) (l1 : List Int) (a2 : Bool) : Option (Bool) := (coppicerref_OpsCheck.f k l0 l1 a2).bind fun t118 => (some (t118 == 0))
theorem coppicerkeep_operated.mono : ∀ a0 a1 a2 k, LeO (coppicerkeep_operated.f k a0 a1 a2) (coppicerkeep_operated.f (k + 1) a0 a1 a2) := by
  intro a0 a1 a2 k
  unfold coppicerkeep_operated.f
  repeat' first
      | (with_reducible exact coppicerref_OpsCheck.mono _ _ _ _)
      | (with_reducible exact LeO.refl _)
      | (with_reducible exact LeO.none _)
      | (with_reducible refine LeO.ite ?_ ?_)
      | (with_reducible refine LeO.bind ?_ (fun _ => ?_))
      | exact coppicerref_OpsCheck.mono _ _ _ _
      | exact LeO.none _
      | refine LeO.ite ?_ ?_
      | refine LeO.bind ?_ (fun _ => ?_)
set_option maxHeartbeats 8000000 in
set_option maxRecDepth 100000 in
theorem coppicerkeep_operated.calls (k : Nat) (A0 : Option Addr) (c0 : Nat) (l0 : List (S94)) (A1 : Option Addr) (c1 : Nat) (l1 : List Int) (a2 : Bool) (r : Bool) (w : World) (hr0 : Kd.C k94 w A0 l0.length l0) (hc0 : l0.length ≤ c0) (hr1 : Kd.C (Kd.int .i64) w A1 l1.length l1) (hc1 : l1.length ≤ c1) (h : coppicerkeep_operated.f k l0 l1 a2 = some r) :
    Calls Try.prog 16 #[.slice A0 l0.length c0, .slice A1 l1.length c1, .bool a2] w fun e w' => e = .returned (.bool r) ∧ Below w.heap.size w w' := by
  have HR0 := Aside0.mk hr0
  have HC0 := Aside0.mk hc0
  clear hr0 hc0
  have HR1 := Aside0.mk hr1
  have HC1 := Aside0.mk hc1
  clear hr1 hc1
  have HB := Aside0.mk (Below.refl w.heap.size w)
  have H : ((coppicerref_OpsCheck.f k l0 l1 a2).bind fun t118 => (some (t118 == 0))) = some r := h
  clear h
  replace H := Option.bind_eq_some_iff.mp H
  obtain ⟨t118, A40, H⟩ := H
  replace H : (some (t118 == 0)) = some r := H
  have A4 := Aside0.mk A40
  clear A40
  obtain rfl := Option.some.inj H
  go_enter Try.func16, Try.ntmps16
  go_wp2_with (first | ((with_reducible refine gate_callee (f := 54) rfl ?_); refine goesL_ (some 10) rfl rfl Try.func54 (by kernel_rfl) rfl #[.slice A0 l0.length c0, .slice A1 l1.length c1, .bool a2] rfl (by (try simp only [List.map_toArray, List.map_cons, List.map_nil]); first | done | rfl | (simp only [List.length_drop, List.length_take]; rfl)) ?_; (with_reducible refine (coppicerref_OpsCheck.calls k _ _ l0 _ _ l1 a2 t118 _ ?side1 ?side2 ?side3 ?side4 A4.out).mono ?_); (case side1 => repeat (first | exact HR0.out | (with_reducible refine Kd.C_alloc ?_ _) | (with_reducible refine Kd.C_drewN ?_ _) | (with_reducible refine Kd.C_drew ?_))); (case side2 => exact HC0.out); (case side3 => repeat (first | exact HR1.out | (with_reducible refine Kd.C_alloc ?_ _) | (with_reducible refine Kd.C_drewN ?_ _) | (with_reducible refine Kd.C_drew ?_))); (case side4 => exact HC1.out); rintro e w5 ⟨rfl, hb⟩; refine ⟨_, rfl, ?_⟩; have n0_ := Aside0.mk (below_step (by repeat (first | (with_reducible first | exact HB.out | apply below_alloc | apply pw_below_drewN | apply below_drew1) | exact HB.out)) hb); clear HB; have HB := n0_; clear n0_; (try clear hb); (try clear hb2); (try clear hk); (try clear hi)))
  go_ret
  exact ⟨by first | rfl | (simp [errW_none, errW_some] <;> rfl) | (simp [*, errW_none, errW_some] <;> rfl), by repeat (first | (with_reducible first | exact HB.out | apply below_alloc | apply pw_below_drewN | apply below_drew1) | exact HB.out)⟩

/-! ### coppicerref_Ints: function 17 -/
def coppicerref_Ints.l0 : Nat → List Int → List Int → Int → Option (Bool)
  | 0, _, _, _ => none
  | k + 1, x0, x1, x5 => if x5 < (x0.length : Int) then (if 0 ≤ x5 then (if x5 < (x1.length : Int) then (if (rd x0 x5) = (rd x1 x5) then (coppicerref_Ints.l0 k x0 x1 (wrap64 (x5 + 1))) else (some false)) else (none)) else (none)) else (some true)
def coppicerref_Ints.f (k : Nat) (l0 : List Int) (l1 : List Int) : Option (Bool) := if (l0.length : Int) = (l1.length : Int) then (coppicerref_Ints.l0 k l0 l1 0) else (some false)
theorem coppicerref_Ints.mono_l : ∀ k, (∀ y0 y1 y2, LeO (coppicerref_Ints.l0 k y0 y1 y2) (coppicerref_Ints.l0 (k + 1) y0 y1 y2))
  | 0 => fun _ _ _ r h => by simp [coppicerref_Ints.l0] at h
  | k + 1 => by
    have ih0 := coppicerref_Ints.mono_l k
    · intro y0 y1 y2
      unfold coppicerref_Ints.l0
      repeat' first
      | (with_reducible exact ih0 _ _ _)
      | (with_reducible exact LeO.refl _)
      | (with_reducible exact LeO.none _)
      | (with_reducible refine LeO.ite ?_ ?_)
      | (with_reducible refine LeO.bind ?_ (fun _ => ?_))
      | exact ih0 _ _ _
      | exact LeO.none _
      | refine LeO.ite ?_ ?_
      | refine LeO.bind ?_ (fun _ => ?_)
theorem coppicerref_Ints.mono : ∀ a0 a1 k, LeO (coppicerref_Ints.f k a0 a1) (coppicerref_Ints.f (k + 1) a0 a1) := by
  intro a0 a1 k
  have ih0 := coppicerref_Ints.mono_l k
  unfold coppicerref_Ints.f
  repeat' first
      | (with_reducible exact ih0 _ _ _)
      | (with_reducible exact LeO.refl _)
      | (with_reducible exact LeO.none _)
      | (with_reducible refine LeO.ite ?_ ?_)
      | (with_reducible refine LeO.bind ?_ (fun _ => ?_))
      | exact ih0 _ _ _
      | exact LeO.none _
      | refine LeO.ite ?_ ?_
      | refine LeO.bind ?_ (fun _ => ?_)
set_option maxHeartbeats 8000000 in
set_option maxRecDepth 100000 in
theorem coppicerref_Ints.calls (k : Nat) (A0 : Option Addr) (c0 : Nat) (l0 : List Int) (A1 : Option Addr) (c1 : Nat) (l1 : List Int) (r : Bool) (w : World) (hr0 : Kd.C (Kd.int .i64) w A0 l0.length l0) (hc0 : l0.length ≤ c0) (hr1 : Kd.C (Kd.int .i64) w A1 l1.length l1) (hc1 : l1.length ≤ c1) (h : coppicerref_Ints.f k l0 l1 = some r) :
    Calls Try.prog 17 #[.slice A0 l0.length c0, .slice A1 l1.length c1] w fun e w' => e = .returned (.bool r) ∧ Drawn0 w w' := by
  have HR0 := Aside0.mk hr0
  have HC0 := Aside0.mk hc0
  clear hr0 hc0
  have HR1 := Aside0.mk hr1
  have HC1 := Aside0.mk hc1
  clear hr1 hc1
  have H : (if (l0.length : Int) = (l1.length : Int) then (coppicerref_Ints.l0 k l0 l1 0) else (some false)) = some r := h
  clear h
  by_cases c3 : (l0.length : Int) = (l1.length : Int)
  · rw [if_pos c3] at H
    have c3b0 : ((l0.length : Int) == (l1.length : Int)) = true := beq_iff_eq.mpr c3
    have c3b1 : ((l0.length : Int) != (l1.length : Int)) = false := bne_eq_false_iff_eq.mpr c3
    have c3b2 : (l0.length == l1.length) = true := by first | simpa using c3 | (simp at c3 ⊢; omega)
    clear c3
    have H' := Aside0.mk H
    clear H
    go_enter Try.func17, Try.ntmps17
    go_wp2
    repeat (go_quiet (fail); try go_wp2)
    go_loopg [5] k (fun kq v5 w' => ∃ (x5_1 : Int), v5 = .int .i64 x5_1 ∧ Aside0 (coppicerref_Ints.l0 kq l0 l1 x5_1 = some r) ∧ Aside0 (kq ≤ k) ∧ Drawn0 w w')
    case atStart => exact ⟨(0), (by first | rfl | (simp; done) | (simp [*]; done)), H', ⟨Nat.le_refl _⟩, by repeat (first | exact Drawn0.refl _ | apply Drawn0.step)⟩
    case round =>
      clear H'
      try clear c1
      try clear p2
      try clear c3
      try clear c3b0
      try clear c3b1
      try clear c3b2
      obtain ⟨x5_1, rfl, HA, HK1, ⟨m1, rfl⟩⟩ := hrel
      cases gk with
      | zero => exact absurd HA.out (by simp [coppicerref_Ints.l0])
      | succ k1 =>
        have H := HA.out
        clear HA
        simp only [coppicerref_Ints.l0] at H
        by_cases c4 : x5_1 < (l0.length : Int)
        · rw [if_pos c4] at H
          have c4b0 : decide (x5_1 < (l0.length : Int)) = true := decide_eq_true c4
          clear c4
          by_cases c5 : 0 ≤ x5_1
          · rw [if_pos c5] at H
            have c5b0 : decide (0 ≤ x5_1) = true := decide_eq_true c5
            clear c5
            by_cases c6 : x5_1 < (l1.length : Int)
            · rw [if_pos c6] at H
              have c6b0 : decide (x5_1 < (l1.length : Int)) = true := decide_eq_true c6
              clear c6
              by_cases c7 : (rd l0 x5_1) = (rd l1 x5_1)
              · rw [if_pos c7] at H
                have c7b0 : ((rd l0 x5_1) == (rd l1 x5_1)) = true := beq_iff_eq.mpr c7
                have c7b1 : ((rd l0 x5_1) != (rd l1 x5_1)) = false := bne_eq_false_iff_eq.mpr c7
                clear c7
                have H' := Aside0.mk H
                clear H
                have p119 : 0 ≤ (x5_1 : Int) := of_decide_eq_true (by first | (with_reducible assumption) | assumption)
                have q119 : x5_1 < (l0.length : Int) := of_decide_eq_true (by first | (with_reducible assumption) | assumption)
                obtain ⟨ad119, e119, hx119_0⟩ := Kd.at_int HR0.out x5_1 p119 q119
                cases e119
                replace p119 := eq_true p119
                replace q119 := eq_true q119
                have p120 : 0 ≤ (x5_1 : Int) := of_decide_eq_true (by first | (with_reducible assumption) | assumption)
                have q120 : x5_1 < (l1.length : Int) := of_decide_eq_true (by first | (with_reducible assumption) | assumption)
                obtain ⟨ad120, e120, hx120_0⟩ := Kd.at_int HR1.out x5_1 p120 q120
                cases e120
                replace p120 := eq_true p120
                replace q120 := eq_true q120
                go_wp2
                repeat (go_quiet (fail); try go_wp2)
                go_roundg k1
                case measure => have := HK1.out; omega
                case rel => exact ⟨(wrap64 (x5_1 + 1)), (by first | rfl | (simp; done) | (simp [*]; done)), H', ⟨by have := HK1.out; omega⟩, by repeat (first | exact Drawn0.refl _ | apply Drawn0.step)⟩
              · rw [if_neg c7] at H
                have c7b0 : ((rd l0 x5_1) == (rd l1 x5_1)) = false := beq_eq_false_iff_ne.mpr c7
                have c7b1 : ((rd l0 x5_1) != (rd l1 x5_1)) = true := bne_iff_ne.mpr c7
                obtain rfl := Option.some.inj H
                have p119 : 0 ≤ (x5_1 : Int) := of_decide_eq_true (by first | (with_reducible assumption) | assumption)
                have q119 : x5_1 < (l0.length : Int) := of_decide_eq_true (by first | (with_reducible assumption) | assumption)
                obtain ⟨ad119, e119, hx119_0⟩ := Kd.at_int HR0.out x5_1 p119 q119
                cases e119
                replace p119 := eq_true p119
                replace q119 := eq_true q119
                have p120 : 0 ≤ (x5_1 : Int) := of_decide_eq_true (by first | (with_reducible assumption) | assumption)
                have q120 : x5_1 < (l1.length : Int) := of_decide_eq_true (by first | (with_reducible assumption) | assumption)
                obtain ⟨ad120, e120, hx120_0⟩ := Kd.at_int HR1.out x5_1 p120 q120
                cases e120
                replace p120 := eq_true p120
                replace q120 := eq_true q120
                go_wp2
                repeat (go_quiet (fail); try go_wp2)
                go_ret
                exact ⟨by first | rfl | (simp; done) | (simp [*]; done), by repeat (first | exact Drawn0.refl _ | apply Drawn0.step)⟩
            · rw [if_neg c6] at H
              exact absurd H (by simp)
          · rw [if_neg c5] at H
            exact absurd H (by simp)
        · rw [if_neg c4] at H
          have c4b0 : decide (x5_1 < (l0.length : Int)) = false := decide_eq_false c4
          clear c4
          obtain rfl := Option.some.inj H
          go_wp2
          repeat (go_quiet (fail); try go_wp2)
          go_ret
          exact ⟨by first | rfl | (simp; done) | (simp [*]; done), by repeat (first | exact Drawn0.refl _ | apply Drawn0.step)⟩
  · rw [if_neg c3] at H
    have c3b0 : ((l0.length : Int) == (l1.length : Int)) = false := beq_eq_false_iff_ne.mpr c3
    have c3b1 : ((l0.length : Int) != (l1.length : Int)) = true := bne_iff_ne.mpr c3
    have c3b2 : (l0.length == l1.length) = false := by first | simpa using c3 | (simp at c3 ⊢; omega)
    obtain rfl := Option.some.inj H
    go_enter Try.func17, Try.ntmps17
    go_wp2
    repeat (go_quiet (fail); try go_wp2)
    go_ret
    exact ⟨by first | rfl | (simp; done) | (simp [*]; done), by repeat (first | exact Drawn0.refl _ | apply Drawn0.step)⟩

-- NOT PRINTED: function 109 (slices_Grow_int_int)

/-! ### slices_Concat_int_int: function 59 -/
def slices_Concat_int_int.f (l0 : List (List Int)) : Option (List Int) := if l0.length < 1000000 ∧ l0.flatten.length < 1000000000 then some l0.flatten else none
theorem slices_Concat_int_int.info : (Try.prog.info? 3).map (fun i => (i.zero, i.size, i.bytes)) = some (some (.int .i64 0), 1, 8) := by kernel_rfl
set_option maxHeartbeats 1000000 in
theorem slices_Concat_int_int.grow (n : Nat) (w : World) (hn : n * 8 ≤ 140737488355328) :
    Calls Try.prog 109 #[.slice none 0 0, .int .i64 n] w fun e w' => ∃ v : Value, e = .returned v ∧ Kd.R (Kd.int .i64) 3 w' w.heap.size (fun _ => True) v [] ∧ Below w.heap.size w w' := by
  have HB := Aside0.mk (Below.refl w.heap.size w)
  have e0 : ((n : Int) < 0) = False := eq_false (by omega)
  rcases Nat.eq_zero_or_pos n with rfl | hp
  · go_enter Try.func109, Try.ntmps109
    go_wp2
    go_ret
    exact ⟨_, rfl, Kd.R_nil _ _ _ _ _, by repeat (first | exact HB.out | apply below_alloc | apply pw_below_drewN)⟩
  · have e1 : ((n : Int) > 0) = True := eq_true (by omega)
    have e2 : IntKind.i64.wrap ((n : Int) - IntKind.i64.wrap (0 - 0)) = (n : Int) := by rw [i64_w, i64_w]; unfold wrap64; omega
    have e3 : ((n : Int) - 0) = (n : Int) := Int.sub_zero _
    have e4 : IntKind.i64.wrap (n : Int) = (n : Int) := by rw [i64_w]; unfold wrap64; omega
    go_enter Try.func109, Try.ntmps109
    go_wp2_with ((with_reducible refine gate_builtin (b := .append) (xs := #[.tmp 20, .tmp 21]) rfl ?_); at_builtin; go_loud (refine Kd.R_append_zeros (Kd.int .i64) (w0 := w) w.heap.size rfl (.tmp 20) (.tmp 21) 23 3 3 (.int .i64 0) 8 rfl Try.underlying23 Try.underlying3 slices_Concat_int_int.info rfl (by decide) (by omega) _ [] (0) (n : Int) (fun _ => True) rfl rfl ?zz (fun _ _ => trivial) (Kd.R_nil _ _ _ _ _) (by omega) ?zB ?zS (by simp; omega) ?_); (case zz => exact rfl); (case zB => repeat (first | exact HB.out | apply below_alloc | apply pw_below_drewN)); (case zS => exact (below_size (by repeat (first | exact HB.out | apply below_alloc | apply pw_below_drewN)))); intro v1 w1 h1 hb hg hat; obtain ⟨A1, d1, rfl, hd1, hr1⟩ := Kd.R_reads h1; have H1 := Aside0.mk h1; have HB1 := Aside0.mk hb; obtain ⟨ad1, rfl, _⟩ := hr1.2.2 (by simp; omega); clear h1 hb hg hat hr1)
    go_ret
    exact ⟨_, rfl, by have := Kd.R_take (m := 0) H1.out (by simp); simpa using this, by repeat (first | exact HB1.out | apply below_alloc | apply pw_below_drewN)⟩
set_option maxHeartbeats 8000000 in
set_option maxRecDepth 100000 in
theorem slices_Concat_int_int.calls (A0 : Option Addr) (c0 : Nat) (l0 : List (List Int)) (r : List Int) (w : World) (hr0 : Kd.C (Kd.slice 3 (Kd.int .i64)) w A0 l0.length l0) (hc0 : l0.length ≤ c0) (h : slices_Concat_int_int.f l0 = some r) :
    Calls Try.prog 59 #[.slice A0 l0.length c0] w fun e w' => ∃ v0_ : Value, e = .returned (v0_) ∧ Kd.R (Kd.int .i64) 3 w' w.heap.size (fun _ => True) v0_ r ∧ Below w.heap.size w w' := by
  unfold slices_Concat_int_int.f at h
  by_cases c : l0.length < 1000000 ∧ l0.flatten.length < 1000000000
  · rw [if_pos c] at h
    obtain rfl := Option.some.inj h
    obtain ⟨cA, cB⟩ := c
    clear h
    have HB := Aside0.mk (Below.refl w.heap.size w)
    have hcell : ∀ kk : Nat, kk < l0.length → ∃ ad A' c', A0 = some ad ∧ w.cell? (ad.add kk) = some (.slice A' (l0.getD kk []).length c') ∧ Kd.C (Kd.int .i64) w A' (l0.getD kk []).length (l0.getD kk []) := fun kk hkk => by
      obtain ⟨ad, cs, e, _, ⟨A', c', rfl, _, hC⟩, hcl⟩ := ReadsRow.get_ hr0 [] (kk : Int) (by omega) (by omega)
      have h2 := hcl 0 _ rfl
      rw [show (Kd.slice 3 (Kd.int .i64)).sz = 1 from rfl, Nat.mul_one, Nat.add_zero, Int.toNat_natCast] at h2
      exact ⟨ad, A', c', e, h2, hC⟩
    clear hr0 hc0
    obtain ⟨T, hT⟩ : ∃ T : Nat → List Int, ∀ kk, T kk = (l0.take kk).flatten := ⟨_, fun _ => rfl⟩
    obtain ⟨E, hE⟩ : ∃ E : Nat → List Int, ∀ kk, E kk = l0.getD kk [] := ⟨_, fun _ => rfl⟩
    obtain ⟨S, hS⟩ : ∃ S : Nat → Nat, ∀ kk, S kk = (T kk).length := ⟨_, fun _ => rfl⟩
    have hT0 : Aside0 (T 0 = []) := ⟨by rw [hT]; rfl⟩
    have hTl : Aside0 (T l0.length = l0.flatten) := ⟨by rw [hT, List.take_length]⟩
    have hTs : Aside0 (∀ kk, kk < l0.length → T (kk + 1) = T kk ++ E kk) := ⟨fun kk hkk => by
      rw [hT, hT, hE, List.take_succ_eq_append_getElem hkk, List.flatten_append, List.flatten_singleton, List.getD_eq_getElem?_getD, List.getElem?_eq_getElem hkk, Option.getD_some]⟩
    have hSb : Aside0 (∀ kk, S kk < 1000000000) := ⟨fun kk => by
      have := congrArg List.length (congrArg List.flatten (List.take_append_drop kk l0))
      rw [List.flatten_append, List.length_append] at this
      rw [hS, hT]
      omega⟩
    have hSl : Aside0 (∀ kk, S kk = (T kk).length) := ⟨hS⟩
    simp only [← hE] at hcell
    have HC0 := Aside0.mk hcell
    generalize l0.flatten = F at *
    generalize l0.length = n at *
    clear hcell hT hE hS cB
    have hS0 : S 0 = 0 := by rw [hSl.out, hT0.out]; rfl
    go_enter Try.func59, Try.ntmps59
    go_wp2
    go_loopg [3, 5, 11] n (fun gg s3 _ s11 wr => ∃ kk q : Nat, kk ≤ n ∧ n - kk ≤ gg ∧ s3 = .int .i64 (S kk : Nat) ∧ s11 = .int .i64 kk ∧ wr = w.drewN q)
    case atStart => exact ⟨0, 0, Nat.zero_le _, by omega, by rw [hS0]; rfl, rfl, rfl⟩
    case round =>
      clear hS0
      obtain ⟨kk, q, hkk, hg, rfl, rfl, rfl⟩ := hrel
      by_cases hlt : kk < n
      · have hltz : (kk : Int) < (n : Int) := by omega
        obtain ⟨ad, A', c', rfl, hc, _⟩ := HC0.out kk hlt
        have h3 := congrArg List.length (hTs.out kk hlt)
        rw [List.length_append, ← hSl.out, ← hSl.out] at h3
        have h4 := hSb.out (kk + 1)
        have h5 : ((S kk : Int) + ((E kk).length : Int)) = ((S (kk + 1) : Nat) : Int) := by omega
        have h6 : ¬ ((S (kk + 1) : Nat) : Int) < 0 := by omega
        have h7 : ((S (kk + 1) : Nat) : Int) ≤ 1000000000 := by omega
        obtain ⟨b, off, lab⟩ := ad
        clear h3 h4
        generalize hS1 : S (kk + 1) = S1 at *
        have HS1 := Aside0.mk hS1
        clear hS1
        generalize S kk = S0 at *
        generalize (E kk).length = S2 at *
        go_wp2
        go_roundg (n - (kk + 1))
        case measure => omega
        case rel => exact ⟨kk + 1, _, by omega, by omega, by rw [HS1.out], by go_num, rfl⟩
      · have hltz : ¬ (kk : Int) < (n : Int) := by omega
        obtain rfl : kk = n := by omega
        have h4 := hSb.out kk
        have hG := fun q => slices_Concat_int_int.grow (S kk) (w.drewN q) (by omega)
        go_wp2_with (go_at_call 109; refine (hG _).mono ?_; rintro e w5 ⟨v, rfl, hR, hb⟩; have HO := Aside0.mk (Kd.R_lower hR (below_size (pw_below_drewN HB.out _))); have HB5 := Aside0.mk ((pw_below_drewN HB.out _).trans (hb.mono (below_size (pw_below_drewN HB.out _)))); clear hR hb)
        clear hG h4
        go_loopg [6, 8, 27] kk (fun gg s6 _ s27 wr => ∃ k2 : Nat, k2 ≤ kk ∧ kk - k2 ≤ gg ∧ s27 = .int .i64 k2 ∧ Aside0 (Kd.R (Kd.int .i64) 3 wr w.heap.size (fun _ => True) s6 (T k2)) ∧ Aside0 (Below w.heap.size w wr))
        case atStart => exact ⟨0, Nat.zero_le _, by omega, rfl, ⟨by rw [hT0.out]; exact HO.out⟩, ⟨HB5.out⟩⟩
        case round =>
          clear HO HB5
          obtain ⟨k2, hkk, hg, rfl, HO, HBr⟩ := hrel
          by_cases hlt : k2 < kk
          · have hltz : (k2 : Int) < (kk : Int) := by omega
            obtain ⟨ad, A', c', rfl, hc0, hC⟩ := HC0.out k2 hlt
            have hc := pw_cell_below (HBr.out) hc0
            clear hc0
            have HC' := Aside0.mk hC
            have HS := Aside0.mk (hTs.out k2 hlt)
            have HL := Aside0.mk (by have h1 := hSb.out (k2 + 1); rw [hSl.out, hTs.out k2 hlt, List.length_append] at h1; exact h1 : (T k2).length + (E k2).length < 1000000000)
            obtain ⟨b, off, lab⟩ := ad
            clear hC
            generalize E k2 = Y2 at *
            go_wp2_with ((with_reducible refine gate_builtin (b := .append) (xs := #[.tmp 31, .tmp 32]) rfl ?_); at_builtin; refine Kd.R_append_rows (Kd.int .i64) (w0 := w) w.heap.size rfl (.tmp 31) (.tmp 32) 23 3 (.int .i64 0) 8 rfl Try.underlying23 slices_Concat_int_int.info rfl (by decide) (by omega) u6 (T k2) Y2 _ _ _ (fun _ => True) (fun _ => False) rfl rfl ?aO ?aR (fun _ _ h => h) (fun _ h => h.elim) ?aF ?aB ?aS ?aL ?_; (case aR => repeat (first | exact (Kd.C_below HC'.out HBr.out) | (with_reducible refine Kd.C_alloc ?_ _) | (with_reducible refine Kd.C_drewN ?_ _) | (with_reducible refine Kd.C_drew ?_))); (case aB => exact (by repeat (first | (with_reducible first | exact HBr.out | apply below_alloc | apply pw_below_drewN | apply below_drew1) | exact HBr.out))); (case aF => exact (fun _ _ => trivial)); (case aO => exact (by (with_reducible repeat (first | apply Kd.R_alloc | apply Kd.R_drewN | apply Kd.R_drew)); exact HO.out)); (case aS => exact (below_size (by repeat (first | (with_reducible first | exact HBr.out | apply below_alloc | apply pw_below_drewN | apply below_drew1) | exact HBr.out)))); (case aL => have := HL.out; omega); intro v2 w7 ho hb hg7 hat; have HO7 := Aside0.mk ho; have HB7 := Aside0.mk hb; clear ho hb hg7 hat)
            go_roundg (kk - (k2 + 1))
            case measure => omega
            case rel => exact ⟨k2 + 1, by omega, by omega, by go_num, ⟨by rw [HS.out]; exact HO7.out⟩, ⟨HB7.out⟩⟩
          · have hltz : ¬ (k2 : Int) < (kk : Int) := by omega
            obtain rfl : k2 = kk := by omega
            have HF := Aside0.mk (by have := HO.out; rw [hTl.out] at this; exact this : Kd.R (Kd.int .i64) 3 wr w.heap.size (fun _ => True) u6 F)
            go_wp2
            go_ret
            exact ⟨_, rfl, HF.out, HBr.out⟩
  · rw [if_neg c] at h
    exact absurd h (by simp)

end Go.Proofs.Ythgiiikjcfhgjaa.GC
