-- Written by ext.py, a program of this session.
import Derived.Test.YtancbigkdjbhnaaGB0
namespace Go.Proofs.Ytancbigkdjbhnaa.GB
open Go.RowKit Go.Proofs.YtancbigkdjbhnaaW.PrintWords Go.Proofs.YtancbigkdjbhnaaW.PrintLast Go.Proofs.YtancbigkdjbhnaaW.PrintMore
attribute [local go_sem] max2_int min2_int max_two min_two max_three min_three max_four min_four   -- for this text's walks alone
set_option linter.unusedVariables false
set_option linter.unusedSimpArgs false

/-! ### bytes_Equal: function 47 -/
def bytes_Equal.f (l0 : List Int) (l1 : List Int) : Option (Bool) := some ((strOfNums l0).toList == (strOfNums l1).toList)
set_option maxHeartbeats 8000000 in
set_option maxRecDepth 100000 in
theorem bytes_Equal.calls (A0 : Option Addr) (c0 : Nat) (l0 : List Int) (A1 : Option Addr) (c1 : Nat) (l1 : List Int) (r : Bool) (w : World) (hr0 : Kd.C (Kd.int .u8) w A0 l0.length l0) (hc0 : l0.length ≤ c0) (hr1 : Kd.C (Kd.int .u8) w A1 l1.length l1) (hc1 : l1.length ≤ c1) (h : bytes_Equal.f l0 l1 = some r) :
    Calls Try.prog 47 #[.slice A0 l0.length c0, .slice A1 l1.length c1] w fun e w' => e = .returned (.bool r) ∧ Drawn0 w w' := by
  have HR0 := Aside0.mk hr0
  have HC0 := Aside0.mk hc0
  clear hr0 hc0
  have HR1 := Aside0.mk hr1
  have HC1 := Aside0.mk hc1
  clear hr1 hc1
  have H : (some ((strOfNums l0).toList == (strOfNums l1).toList)) = some r := h
  clear h
  obtain rfl := Option.some.inj H
  have hcv3 := Kd.C_string (P := Try.prog) (A := A0) (c := c0) Try.underlying22 Try.underlying5 Try.underlying9 HR0.out
  have hcv4 := Kd.C_string (P := Try.prog) (A := A1) (c := c1) Try.underlying22 Try.underlying5 Try.underlying9 HR1.out
  go_enter Try.func47, Try.ntmps47
  go_wp2
  go_ret
  exact ⟨by first | rfl | (simp; done) | (simp [*]; done), by repeat (first | exact Drawn0.refl _ | apply Drawn0.step)⟩

/-! ### power_has: function 42 -/
def power_has.f (l0 : List Int) (a1 : Int) : Option (Bool) := if a1 ≥ 1 then (if a1 ≤ (l0.length : Int) then (if 0 ≤ a1 then (if 0 ≤ (wrap64 ((l0.length : Int) - a1)) then (if (wrap64 ((l0.length : Int) - a1)) ≤ (l0.length : Int) then ((bytes_Equal.f (l0.drop (a1 : Int).toNat) (l0.take ((wrap64 ((l0.length : Int) - a1)) : Int).toNat)).bind fun t107 => (some t107)) else (none)) else (none)) else (none)) else (some false)) else (some false)
set_option maxHeartbeats 8000000 in
set_option maxRecDepth 100000 in
theorem power_has.calls (A0 : Option Addr) (c0 : Nat) (l0 : List Int) (a1 : Int) (r : Bool) (w : World) (hr0 : Kd.C (Kd.int .u8) w A0 l0.length l0) (hc0 : l0.length ≤ c0) (h : power_has.f l0 a1 = some r) :
    Calls Try.prog 42 #[.slice A0 l0.length c0, .int .i64 a1] w fun e w' => e = .returned (.bool r) ∧ Drawn0 w w' := by
  have HR0 := Aside0.mk hr0
  have HC0 := Aside0.mk hc0
  clear hr0 hc0
  have H : (if a1 ≥ 1 then (if a1 ≤ (l0.length : Int) then (if 0 ≤ a1 then (if 0 ≤ (wrap64 ((l0.length : Int) - a1)) then (if (wrap64 ((l0.length : Int) - a1)) ≤ (l0.length : Int) then ((bytes_Equal.f (l0.drop (a1 : Int).toNat) (l0.take ((wrap64 ((l0.length : Int) - a1)) : Int).toNat)).bind fun t107 => (some t107)) else (none)) else (none)) else (none)) else (some false)) else (some false)) = some r := h
  clear h
  by_cases c3 : a1 ≥ 1
  · rw [if_pos c3] at H
    have c3b0 : decide (1 ≤ a1) = true := decide_eq_true c3
    clear c3
    by_cases c4 : a1 ≤ (l0.length : Int)
    · rw [if_pos c4] at H
      have c4b0 : decide (a1 ≤ (l0.length : Int)) = true := decide_eq_true c4
      clear c4
      by_cases c5 : 0 ≤ a1
      · rw [if_pos c5] at H
        have c5b0 := eq_true c5
        have c5b1 : decide (0 ≤ a1) = true := decide_eq_true c5
        clear c5
        have c6b0 := eq_true (of_decide_eq_true (by first | (with_reducible assumption) | assumption) : a1 ≤ (l0.length : Int))
        obtain ⟨ji7, hji7⟩ : ∃ j_ : Int, (wrap64 ((l0.length : Int) - a1)) = j_ := ⟨_, rfl⟩
        replace H : (if 0 ≤ (ji7) then (if (ji7) ≤ (l0.length : Int) then ((bytes_Equal.f (l0.drop (a1 : Int).toNat) (l0.take ((ji7) : Int).toNat)).bind fun t107 => (some t107)) else (none)) else (none)) = some r := by first | (rw [hji7] at H; exact H) | (simp only [hji7] at H ⊢; exact H)
        have hji7w : (IntKind.i64.wrap ((l0.length : Int) - a1)) = ji7 := (i64_w _).trans hji7
        by_cases c8 : 0 ≤ (ji7)
        · rw [if_pos c8] at H
          have c8b0 := eq_true c8
          have c8b1 : decide (0 ≤ (ji7)) = true := decide_eq_true c8
          clear c8
          by_cases c9 : (ji7) ≤ (l0.length : Int)
          · rw [if_pos c9] at H
            have c9b0 := eq_true c9
            have c9b1 : decide ((ji7) ≤ (l0.length : Int)) = true := decide_eq_true c9
            clear c9
            replace H := Option.bind_eq_some_iff.mp H
            obtain ⟨t107, A100, H⟩ := H
            replace H : (some t107) = some r := H
            have A10 := Aside0.mk A100
            clear A100
            obtain rfl := Option.some.inj H
            obtain ⟨i011, hi011, _, hsz11, _⟩ := info_parts info5
            obtain ⟨A11, hcut11, hA11, hC11⟩ := print_drop_of (P := Try.prog) (Value.int .u8) 0 22 5 .i64 Try.underlying22 hi011 hsz11 A0 c0 l0 a1 (of_decide_eq_true (by first | (with_reducible assumption) | assumption)) (of_decide_eq_true (by first | (with_reducible assumption) | assumption)) HC0.out
            have HR105 := Aside0.mk (Kd.C_of_reads (h1 := fun _ => rfl) (hA11 _ (Kd.reads_of_C HR0.out)))
            have HC105 := Aside0.mk hC11
            clear hA11 hC11 hi011 hsz11
            obtain ⟨i012, hi012, _, hsz12, _⟩ := info_parts info5
            obtain ⟨hcut12, hA12, hC12⟩ := print_take_of (P := Try.prog) (Value.int .u8) 0 22 5 .i64 Try.underlying22 hi012 hsz12 A0 c0 l0 (ji7) (of_decide_eq_true (by first | (with_reducible assumption) | assumption)) (of_decide_eq_true (by first | (with_reducible assumption) | assumption)) HC0.out
            have HR106 := Aside0.mk (Kd.C_of_reads (h1 := fun _ => rfl) (hA12 _ (Kd.reads_of_C HR0.out)))
            have HC106 := Aside0.mk hC12
            clear hA12 hC12 hi012 hsz12
            go_enter Try.func42, Try.ntmps42
            go_wp2_with (first | (go_at_call 47; refine calls_of_args (args' := #[.slice A11 (l0.drop (a1 : Int).toNat).length (c0 - a1.toNat), .slice A0 (l0.take ((ji7) : Int).toNat).length c0]) (by first | rfl | rfl | (simp only [List.length_drop, List.length_take]; done) | (simp [*]; done) | (simp [*]; omega)) ?_; (with_reducible refine (bytes_Equal.calls _ _ (l0.drop (a1 : Int).toNat) _ _ (l0.take ((ji7) : Int).toNat) t107 _ ?side1 ?side2 ?side3 ?side4 A10.out).mono ?_); (case side1 => repeat (first | exact HR105.out | (with_reducible refine Kd.C_alloc ?_ _) | (with_reducible refine Kd.C_drewN ?_ _) | (with_reducible refine Kd.C_drew ?_))); (case side2 => exact HC105.out); (case side3 => repeat (first | exact HR106.out | (with_reducible refine Kd.C_alloc ?_ _) | (with_reducible refine Kd.C_drewN ?_ _) | (with_reducible refine Kd.C_drew ?_))); (case side4 => exact HC106.out); rintro e w' ⟨rfl, ⟨nd, rfl⟩⟩; (try first | exact ⟨rfl, _, World.drewN_drewN _ _ _⟩ | exact ⟨rfl, _, Eq.trans (World.drewN_drewN _ _ _) (congrArg (World.drewN _) (Nat.add_assoc _ _ _))⟩)))
            repeat (go_quiet (first | (go_at_call 47; refine calls_of_args (args' := #[.slice A11 (l0.drop (a1 : Int).toNat).length (c0 - a1.toNat), .slice A0 (l0.take ((ji7) : Int).toNat).length c0]) (by first | rfl | rfl | (simp only [List.length_drop, List.length_take]; done) | (simp [*]; done) | (simp [*]; omega)) ?_; (with_reducible refine (bytes_Equal.calls _ _ (l0.drop (a1 : Int).toNat) _ _ (l0.take ((ji7) : Int).toNat) t107 _ ?side1 ?side2 ?side3 ?side4 A10.out).mono ?_); (case side1 => repeat (first | exact HR105.out | (with_reducible refine Kd.C_alloc ?_ _) | (with_reducible refine Kd.C_drewN ?_ _) | (with_reducible refine Kd.C_drew ?_))); (case side2 => exact HC105.out); (case side3 => repeat (first | exact HR106.out | (with_reducible refine Kd.C_alloc ?_ _) | (with_reducible refine Kd.C_drewN ?_ _) | (with_reducible refine Kd.C_drew ?_))); (case side4 => exact HC106.out); rintro e w' ⟨rfl, ⟨nd, rfl⟩⟩; (try first | exact ⟨rfl, _, World.drewN_drewN _ _ _⟩ | exact ⟨rfl, _, Eq.trans (World.drewN_drewN _ _ _) (congrArg (World.drewN _) (Nat.add_assoc _ _ _))⟩))); try go_wp2_with (first | (go_at_call 47; refine calls_of_args (args' := #[.slice A11 (l0.drop (a1 : Int).toNat).length (c0 - a1.toNat), .slice A0 (l0.take ((ji7) : Int).toNat).length c0]) (by first | rfl | rfl | (simp only [List.length_drop, List.length_take]; done) | (simp [*]; done) | (simp [*]; omega)) ?_; (with_reducible refine (bytes_Equal.calls _ _ (l0.drop (a1 : Int).toNat) _ _ (l0.take ((ji7) : Int).toNat) t107 _ ?side1 ?side2 ?side3 ?side4 A10.out).mono ?_); (case side1 => repeat (first | exact HR105.out | (with_reducible refine Kd.C_alloc ?_ _) | (with_reducible refine Kd.C_drewN ?_ _) | (with_reducible refine Kd.C_drew ?_))); (case side2 => exact HC105.out); (case side3 => repeat (first | exact HR106.out | (with_reducible refine Kd.C_alloc ?_ _) | (with_reducible refine Kd.C_drewN ?_ _) | (with_reducible refine Kd.C_drew ?_))); (case side4 => exact HC106.out); rintro e w' ⟨rfl, ⟨nd, rfl⟩⟩; (try first | exact ⟨rfl, _, World.drewN_drewN _ _ _⟩ | exact ⟨rfl, _, Eq.trans (World.drewN_drewN _ _ _) (congrArg (World.drewN _) (Nat.add_assoc _ _ _))⟩))))
            go_ret
            exact ⟨by first | rfl | (simp; done) | (simp only [← hji7] <;> (first | rfl | simp)) | (simp [*]; done), by repeat (first | exact Drawn0.refl _ | apply Drawn0.step)⟩
          · rw [if_neg c9] at H
            exact absurd H (by simp)
        · rw [if_neg c8] at H
          exact absurd H (by simp)
      · rw [if_neg c5] at H
        exact absurd H (by simp)
    · rw [if_neg c4] at H
      have c4b0 : decide (a1 ≤ (l0.length : Int)) = false := decide_eq_false c4
      clear c4
      obtain rfl := Option.some.inj H
      go_enter Try.func42, Try.ntmps42
      go_wp2
      repeat (go_quiet (fail); try go_wp2)
      go_ret
      exact ⟨by first | rfl | (simp; done) | (simp [*]; done), by repeat (first | exact Drawn0.refl _ | apply Drawn0.step)⟩
  · rw [if_neg c3] at H
    have c3b0 : decide (1 ≤ a1) = false := decide_eq_false c3
    clear c3
    obtain rfl := Option.some.inj H
    go_enter Try.func42, Try.ntmps42
    go_wp2
    repeat (go_quiet (fail); try go_wp2)
    go_ret
    exact ⟨by first | rfl | (simp; done) | (simp [*]; done), by repeat (first | exact Drawn0.refl _ | apply Drawn0.step)⟩

/-! ### bytes_Clone: function 45 -/
def bytes_Clone.f (l0 : List Int) : Option (List Int) := if l0.length < 140737488355328 then some l0 else none
theorem bytes_Clone.info : (Try.prog.info? 5).map (fun i => (i.zero, i.size, i.bytes)) = some (some (.int .u8 0), 1, 1) := by kernel_rfl
set_option maxHeartbeats 8000000 in
set_option maxRecDepth 100000 in
theorem bytes_Clone.calls (A0 : Option Addr) (c0 : Nat) (l0 : List Int) (r : List Int) (w : World) (hr0 : Kd.C (Kd.int .u8) w A0 l0.length l0) (hc0 : l0.length ≤ c0) (h : bytes_Clone.f l0 = some r) :
    Calls Try.prog 45 #[.slice A0 l0.length c0] w fun e w' => ∃ v0_ : Value, e = .returned (v0_) ∧ Kd.R (Kd.int .u8) 5 w' w.heap.size (fun _ => True) v0_ r ∧ Below w.heap.size w w' := by
  have HB := Aside0.mk (Below.refl w.heap.size w)
  unfold bytes_Clone.f at h
  by_cases c : l0.length < 140737488355328
  · rw [if_pos c] at h
    obtain rfl := Option.some.inj h
    clear h
    have LM := Aside0.mk c
    clear c
    have qn : ∀ (w : World) (a : Option Addr) (n c n' c' : Nat), (binOp .eql 22 (.slice a n c) (.slice none n' c')).run Try.prog w = .ok (.bool a.isNone) w := fun w a n c n' c' => Lib.run_eql_slice_nil w _ _ a n c n' c' Try.underlying22
    cases A0 with
    | none =>
      obtain rfl : l0 = [] := by
        rcases Nat.eq_zero_or_pos l0.length with h0 | h0
        · exact List.eq_nil_of_length_eq_zero h0
        · obtain ⟨ad, e, _⟩ := hr0.2.2 h0
          cases e
      clear hr0 hc0 LM
      go_enter Try.func45, Try.ntmps45
      go_wp2
      go_ret
      exact ⟨_, rfl, Kd.R_nil _ _ _ _ _, HB.out⟩
    | some ad =>
      have HR0 := Aside0.mk hr0
      clear hr0 hc0
      obtain ⟨y1, hy1⟩ : ∃ y_ : List Int, y_ = ([] : List Int) := ⟨_, rfl⟩
      have Ny1 := Aside0.mk hy1
      clear hy1
      obtain ⟨y2, hy2⟩ : ∃ y_ : List Int, y_ = y1 ++ l0 := ⟨_, rfl⟩
      have Ny2 := Aside0.mk hy2
      clear hy2
      go_enter Try.func45, Try.ntmps45
      go_wp2_with (first | ((with_reducible refine gate_dst (N := 5) rfl ?_); refine Kd.R_lit (Kd.int .u8) _ 5 ?hg (N := 5) ?hd (xs := ([] : List Int)) (inner := []) (ok := fun _ => True) (okp := fun _ => True) ?hr ?hp (fun _ hk => hk) trivial (Below.refl _ _) (Nat.le_refl _) (by simp) ?_; (case hd => rfl); (case hg => rfl); (case hr => first | (go_simp; done) | (go_simp; rfl)); (case hp => exact (Reps.none _ _)); intro v1 w5 ho1 hb hg_ hnew_; clear hg_ hnew_; (first | rw [← Ny1.out] at ho1 | (simp only [Int.reduceToNat] at ho1; rw [← Ny1.out] at ho1)); have n0_ := Aside0.mk (Kd.R_lower ho1 (below_size (by repeat (first | (with_reducible first | exact HB.out | apply below_alloc | apply pw_below_drewN | apply below_drew1) | exact HB.out)))); have n1_ := Aside0.mk (below_step (by repeat (first | (with_reducible first | exact HB.out | apply below_alloc | apply pw_below_drewN | apply below_drew1) | exact HB.out)) hb); clear HB; have HO1 := n0_; have HB := n1_; clear n0_ n1_; clear hb ho1) | ((with_reducible refine gate_builtin (b := .append) (xs := #[.tmp 5, .tmp 6]) rfl ?_); at_builtin; refine Kd.R_append_rows (Kd.int .u8) (w0 := w) w.heap.size rfl (.tmp 5) (.tmp 6) 22 5 (.int .u8 0) 1 rfl Try.underlying22 bytes_Clone.info rfl (by decide) (by omega) v1 y1 l0 _ _ _ (fun _ => True) (fun _ => False) rfl rfl ?aO ?aR (fun _ _ h => h) (fun _ h => h.elim) ?aF ?aB ?aS ?aL ?_; (case aR => repeat (first | exact (Kd.C_below HR0.out HB.out) | (with_reducible refine Kd.C_alloc ?_ _) | (with_reducible refine Kd.C_drewN ?_ _) | (with_reducible refine Kd.C_drew ?_))); (case aB => exact (by repeat (first | (with_reducible first | exact HB.out | apply below_alloc | apply pw_below_drewN | apply below_drew1) | exact HB.out))); (case aF => exact (fun _ _ => trivial)); (case aO => exact (by (with_reducible repeat (first | apply Kd.R_alloc | apply Kd.R_drewN | apply Kd.R_drew)); exact HO1.out)); (case aS => exact (below_size (by repeat (first | (with_reducible first | exact HB.out | apply below_alloc | apply pw_below_drewN | apply below_drew1) | exact HB.out)))); (case aL => have := LM.out; have := Ny1.out; subst this; simp only [List.length_nil]; omega); intro v2 w7 ho hb hg hat; rw [← Ny2.out] at ho; have n0_ := Aside0.mk (hb); have n1_ := Aside0.mk (ho); clear HB; clear HO1; have HB := n0_; have HO2 := n1_; clear n0_ n1_; clear ho hb hg hat))
      go_ret
      have e2 : y2 = l0 := by rw [Ny2.out, Ny1.out]; rfl
      refine ⟨_, rfl, ?_, HB.out⟩
      rw [← e2]
      exact HO2.out
  · rw [if_neg c] at h
    exact absurd h (by simp)

end Go.Proofs.Ytancbigkdjbhnaa.GB
