-- Written by ext.py, a program of this session.
import Derived.Test.YtbblpddbkdiagaaGA0
namespace Go.Proofs.Ytbblpddbkdiagaa.GA
open Go.RowKit Go.Proofs.YtbblpddbkdiagaaW.PrintWords Go.Proofs.YtbblpddbkdiagaaW.PrintLast Go.Proofs.YtbblpddbkdiagaaW.PrintMore
attribute [local go_sem] max2_int min2_int max_two min_two max_three min_three max_four min_four   -- for this text's walks alone
set_option linter.unusedVariables false
set_option linter.unusedSimpArgs false

/-! ### bytes_Clone: function 47 -/
def bytes_Clone.f (l0 : List Int) : Option (List Int) := if l0.length < 140737488355328 then some l0 else none
theorem bytes_Clone.info : (Try.prog.info? 5).map (fun i => (i.zero, i.size, i.bytes)) = some (some (.int .u8 0), 1, 1) := by kernel_rfl
set_option maxHeartbeats 8000000 in
set_option maxRecDepth 100000 in
theorem bytes_Clone.calls (A0 : Option Addr) (c0 : Nat) (l0 : List Int) (r : List Int) (w : World) (hr0 : Kd.C (Kd.int .u8) w A0 l0.length l0) (hc0 : l0.length ≤ c0) (h : bytes_Clone.f l0 = some r) :
    Calls Try.prog 47 #[.slice A0 l0.length c0] w fun e w' => ∃ v0_ : Value, e = .returned (v0_) ∧ Kd.R (Kd.int .u8) 5 w' w.heap.size (fun _ => True) v0_ r ∧ Below w.heap.size w w' := by
  have HB := Aside0.mk (Below.refl w.heap.size w)
  unfold bytes_Clone.f at h
  by_cases c : l0.length < 140737488355328
  · rw [if_pos c] at h
    obtain rfl := Option.some.inj h
    clear h
    have LM := Aside0.mk c
    clear c
    have qn : ∀ (w : World) (a : Option Addr) (n c n' c' : Nat), (binOp .eql 22 (.slice a n c) (.slice none n' c')).run Try.prog w = .ok (.bool a.isNone) w := fun w a n c n' c' => Lib.run_eql_slice_nil w _ _ a n c n' c' Try.underlying22
    cases A0 with
    | none =>
      obtain rfl : l0 = [] := by
        rcases Nat.eq_zero_or_pos l0.length with h0 | h0
        · exact List.eq_nil_of_length_eq_zero h0
        · obtain ⟨ad, e, _⟩ := hr0.2.2 h0
          cases e
      clear hr0 hc0 LM
      go_enter Try.func47, Try.ntmps47
      go_wp2
      go_ret
      exact ⟨_, rfl, Kd.R_nil _ _ _ _ _, HB.out⟩
    | some ad =>
      have HR0 := Aside0.mk hr0
      clear hr0 hc0
      obtain ⟨y1, hy1⟩ : ∃ y_ : List Int, y_ = ([] : List Int) := ⟨_, rfl⟩
      have Ny1 := Aside0.mk hy1
      clear hy1
      obtain ⟨y2, hy2⟩ : ∃ y_ : List Int, y_ = y1 ++ l0 := ⟨_, rfl⟩
      have Ny2 := Aside0.mk hy2
      clear hy2
      go_enter Try.func47, Try.ntmps47
      go_wp2_with (first | ((with_reducible refine gate_dst (N := 5) rfl ?_); refine Kd.R_lit (Kd.int .u8) _ 5 ?hg (N := 5) ?hd (xs := ([] : List Int)) (inner := []) (ok := fun _ => True) (okp := fun _ => True) ?hr ?hp (fun _ hk => hk) trivial (Below.refl _ _) (Nat.le_refl _) (by simp) ?_; (case hd => rfl); (case hg => rfl); (case hr => first | (go_simp; done) | (go_simp; rfl)); (case hp => exact (Reps.none _ _)); intro v1 w5 ho1 hb hg_ hnew_; clear hg_ hnew_; (first | rw [← Ny1.out] at ho1 | (simp only [Int.reduceToNat] at ho1; rw [← Ny1.out] at ho1)); have n0_ := Aside0.mk (Kd.R_lower ho1 (below_size (by repeat (first | (with_reducible first | exact HB.out | apply below_alloc | apply pw_below_drewN | apply below_drew1) | exact HB.out)))); have n1_ := Aside0.mk (below_step (by repeat (first | (with_reducible first | exact HB.out | apply below_alloc | apply pw_below_drewN | apply below_drew1) | exact HB.out)) hb); clear HB; have HO1 := n0_; have HB := n1_; clear n0_ n1_; clear hb ho1) | ((with_reducible refine gate_builtin (b := .append) (xs := #[.tmp 5, .tmp 6]) rfl ?_); at_builtin; refine Kd.R_append_rows (Kd.int .u8) (w0 := w) w.heap.size rfl (.tmp 5) (.tmp 6) 22 5 (.int .u8 0) 1 rfl Try.underlying22 bytes_Clone.info rfl (by decide) (by omega) v1 y1 l0 _ _ _ (fun _ => True) (fun _ => False) rfl rfl ?aO ?aR (fun _ _ h => h) (fun _ h => h.elim) ?aF ?aB ?aS ?aL ?_; (case aR => repeat (first | exact (Kd.C_below HR0.out HB.out) | (with_reducible refine Kd.C_alloc ?_ _) | (with_reducible refine Kd.C_drewN ?_ _) | (with_reducible refine Kd.C_drew ?_))); (case aB => exact (by repeat (first | (with_reducible first | exact HB.out | apply below_alloc | apply pw_below_drewN | apply below_drew1) | exact HB.out))); (case aF => exact (fun _ _ => trivial)); (case aO => exact (by (with_reducible repeat (first | apply Kd.R_alloc | apply Kd.R_drewN | apply Kd.R_drew)); exact HO1.out)); (case aS => exact (below_size (by repeat (first | (with_reducible first | exact HB.out | apply below_alloc | apply pw_below_drewN | apply below_drew1) | exact HB.out)))); (case aL => have := LM.out; have := Ny1.out; subst this; simp only [List.length_nil]; omega); intro v2 w7 ho hb hg hat; rw [← Ny2.out] at ho; have n0_ := Aside0.mk (hb); have n1_ := Aside0.mk (ho); clear HB; clear HO1; have HB := n0_; have HO2 := n1_; clear n0_ n1_; clear ho hb hg hat))
      go_ret
      have e2 : y2 = l0 := by rw [Ny2.out, Ny1.out]; rfl
      refine ⟨_, rfl, ?_, HB.out⟩
      rw [← e2]
      exact HO2.out
  · rw [if_neg c] at h
    exact absurd h (by simp)

-- NOT PRINTED: function 75 (bytealg_Compare)

/-! ### bytes_Compare: function 48 -/
def bytes_Compare.f (l0 : List Int) (l1 : List Int) : Option Int := some (Lib.compareBytes (strOfNums l0).data.toList (strOfNums l1).data.toList)
theorem bytes_Compare.bytesIn {w : World} {A : Option Addr} {c : Nat} {xs : List Int} (h : (Kd.int .u8).C w A xs.length xs) : (Extern.Bytes.bytesOf (.slice A xs.length c)).run Try.prog w = .ok (strOfNums xs) w := by
  have hr := Kd.reads_of_C (enc := Value.int .u8) (d := (0 : Int)) (h1 := fun _ => rfl) h
  rcases A with _ | ad
  · have h0 : xs.length = 0 := by
      rcases Nat.eq_zero_or_pos xs.length with h0 | h0
      · exact h0
      · obtain ⟨ad, h', _⟩ := hr.2.2 h0
        cases h'
    obtain rfl : xs = [] := List.eq_nil_of_length_eq_zero h0
    rfl
  · have hl := Lib.run_loadBytesX (P := Try.prog) (w := w) xs ad .empty (fun j x hj => by
      have hjl := (List.getElem?_eq_some_iff.1 hj).1
      obtain ⟨ad', he', hc⟩ := hr.2.2 (by omega)
      injection he' with he'
      subst he'
      rw [hc j (by omega), List.getD_eq_getElem?_getD, hj]
      rfl)
    show (Extern.Bytes.loadBytes ad xs.length .empty).run Try.prog w = _
    rw [hl]
    have : (⟨ByteArray.empty.data ++ (Lib.bytesOf xs).toArray⟩ : ByteArray) = strOfNums xs := by
      apply ByteArray.ext
      show (#[] : Array UInt8) ++ (Lib.bytesOf xs).toArray = (xs.map fun n => UInt8.ofNat n.toNat).toArray
      simp [Lib.bytesOf]
    rw [this]
theorem bytes_Compare.cmp {w : World} {A B : Option Addr} {c c' : Nat} {xs ys : List Int} (hx : (Kd.int .u8).C w A xs.length xs) (hy : (Kd.int .u8).C w B ys.length ys) :
    (Extern.BytealgCompare.compare #[.slice A xs.length c, .slice B ys.length c']).run Try.prog w = .ok (.int .i64 (Lib.compareBytes (strOfNums xs).data.toList (strOfNums ys).data.toList)) w := by
  change Sem.run Try.prog (do pure (goInt (Extern.BytealgCompare.cmp (← Extern.Bytes.bytesOf (.slice A xs.length c)) (← Extern.Bytes.bytesOf (.slice B ys.length c'))))) w = _
  rw [Sem.run_bind, bytes_Compare.bytesIn hx]
  simp only [Result.andThen]
  rw [Sem.run_bind, bytes_Compare.bytesIn hy]
  simp only [Result.andThen, Sem.run_pure]
  rw [Lib.cmp_eq]
  rfl
set_option maxHeartbeats 8000000 in
set_option maxRecDepth 100000 in
theorem bytes_Compare.calls (A0 : Option Addr) (c0 : Nat) (l0 : List Int) (A1 : Option Addr) (c1 : Nat) (l1 : List Int) (r : Int) (w : World) (hr0 : Kd.C (Kd.int .u8) w A0 l0.length l0) (hc0 : l0.length ≤ c0) (hr1 : Kd.C (Kd.int .u8) w A1 l1.length l1) (hc1 : l1.length ≤ c1) (h : bytes_Compare.f l0 l1 = some r) :
    Calls Try.prog 48 #[.slice A0 l0.length c0, .slice A1 l1.length c1] w fun e w' => e = .returned (.int .i64 r) ∧ Drawn0 w w' := by
  unfold bytes_Compare.f at h
  obtain rfl := Option.some.inj h
  clear h
  go_enter Try.func48, Try.ntmps48
  go_wp2
  rw [run_callFunc_extern Try.func75 (by kernel_rfl) (by kernel_rfl) (by kernel_rfl) (e := Extern.BytealgCompare.compare) (by kernel_rfl), bytes_Compare.cmp hr0 hr1]
  simp only [Result.andThen]
  rw [Oper.upon_value]
  go_wp2
  go_ret
  exact ⟨rfl, ⟨⟨0, rfl⟩⟩⟩

/-! ### lyndon_Turn: function 15 -/
def lyndon_Turn.l0 : Nat → List Int → Int → List Int → Int → Int → Option (Int × Int)
  | 0, _, _, _, _, _ => none
  | k + 1, x0, x4, x5, x15, x16 => if x16 < x15 then (if 0 ≤ x16 then (if x16 ≤ (wrap64 (x16 + (x0.length : Int))) then (if (wrap64 (x16 + (x0.length : Int))) ≤ (x5.length : Int) then (if 0 ≤ x4 then (if x4 ≤ (wrap64 (x4 + (x0.length : Int))) then (if (wrap64 (x4 + (x0.length : Int))) ≤ (x5.length : Int) then ((bytes_Compare.f ((x5.take ((wrap64 (x16 + (x0.length : Int))) : Int).toNat).drop (x16 : Int).toNat) ((x5.take ((wrap64 (x4 + (x0.length : Int))) : Int).toNat).drop (x4 : Int).toNat)).bind fun t115 => (if t115 < 0 then (lyndon_Turn.l0 k x0 x16 x5 x15 (wrap64 (x16 + 1))) else (lyndon_Turn.l0 k x0 x4 x5 x15 (wrap64 (x16 + 1))))) else (none)) else (none)) else (none)) else (none)) else (none)) else (none)) else (some (x4, 0))
def lyndon_Turn.f (k : Nat) (l0 : List Int) : Option (Int × Int) := if (l0.length : Int) > 60 then (some (0, 1)) else ((bytes_Clone.f l0).bind fun t101 => (if t101.length + l0.length < 140737488355328 then (lyndon_Turn.l0 k l0 0 (t101 ++ l0) (l0.length : Int) 0) else (none)))
theorem lyndon_Turn.mono_l : ∀ k, (∀ y0 y1 y2 y3 y4, LeO (lyndon_Turn.l0 k y0 y1 y2 y3 y4) (lyndon_Turn.l0 (k + 1) y0 y1 y2 y3 y4))
  | 0 => fun _ _ _ _ _ r h => by simp [lyndon_Turn.l0] at h
  | k + 1 => by
    have ih0 := lyndon_Turn.mono_l k
    · intro y0 y1 y2 y3 y4
      unfold lyndon_Turn.l0
      repeat' first
      | (with_reducible exact ih0 _ _ _ _ _)
      | (with_reducible exact LeO.refl _)
      | (with_reducible exact LeO.none _)
      | (with_reducible refine LeO.ite ?_ ?_)
      | (with_reducible refine LeO.bind ?_ (fun _ => ?_))
      | exact ih0 _ _ _ _ _
      | exact LeO.none _
      | refine LeO.ite ?_ ?_
      | refine LeO.bind ?_ (fun _ => ?_)
theorem lyndon_Turn.mono : ∀ a0 k, LeO (lyndon_Turn.f k a0) (lyndon_Turn.f (k + 1) a0) := by
  intro a0 k
  have ih0 := lyndon_Turn.mono_l k
  unfold lyndon_Turn.f
  repeat' first
      | (with_reducible exact ih0 _ _ _ _ _)
      | (with_reducible exact LeO.refl _)
      | (with_reducible exact LeO.none _)
      | (with_reducible refine LeO.ite ?_ ?_)
      | (with_reducible refine LeO.bind ?_ (fun _ => ?_))
      | exact ih0 _ _ _ _ _
      | exact LeO.none _
      | refine LeO.ite ?_ ?_
      | refine LeO.bind ?_ (fun _ => ?_)
set_option maxHeartbeats 8000000 in
set_option maxRecDepth 100000 in
theorem lyndon_Turn.calls (k : Nat) (A0 : Option Addr) (c0 : Nat) (l0 : List Int) (r1 : Int) (r2 : Int) (w : World) (hr0 : Kd.C (Kd.int .u8) w A0 l0.length l0) (hc0 : l0.length ≤ c0) (h : lyndon_Turn.f k l0 = some (r1, r2)) :
    Calls Try.prog 15 #[.slice A0 l0.length c0] w fun e w' => e = .returned (.tuple #[.int .i64 r1, .int .i64 r2]) ∧ Below w.heap.size w w' := by
  have HR0 := Aside0.mk hr0
  have HC0 := Aside0.mk hc0
  clear hr0 hc0
  have HB := Aside0.mk (Below.refl w.heap.size w)
  have H : (if (l0.length : Int) > 60 then (some (0, 1)) else ((bytes_Clone.f l0).bind fun t101 => (if t101.length + l0.length < 140737488355328 then (lyndon_Turn.l0 k l0 0 (t101 ++ l0) (l0.length : Int) 0) else (none)))) = some (r1, r2) := h
  clear h
  by_cases c2 : (l0.length : Int) > 60
  · rw [if_pos c2] at H
    have c2b0 : decide (60 < (l0.length : Int)) = true := decide_eq_true c2
    have c2b1 : decide (60 < l0.length) = true := decide_eq_true (by omega)
    clear c2
    simp only [Option.some.injEq, Prod.mk.injEq] at H
    obtain ⟨rfl, rfl⟩ := H
    go_enter Try.func15, Try.ntmps15
    go_wp2
    repeat (go_quiet (fail); try go_wp2)
    go_ret2
    exact ⟨by first | rfl | (simp [errW_none, errW_some] <;> rfl) | (simp [*, errW_none, errW_some] <;> rfl), by repeat (first | (with_reducible first | exact HB.out | apply below_alloc | apply pw_below_drewN | apply below_drew1) | exact HB.out)⟩
  · rw [if_neg c2] at H
    have c2b0 : decide (60 < (l0.length : Int)) = false := decide_eq_false c2
    have c2b1 : decide (60 < l0.length) = false := decide_eq_false (by omega)
    clear c2
    replace H := Option.bind_eq_some_iff.mp H
    obtain ⟨t101, A30, H⟩ := H
    replace H : (if t101.length + l0.length < 140737488355328 then (lyndon_Turn.l0 k l0 0 (t101 ++ l0) (l0.length : Int) 0) else (none)) = some (r1, r2) := H
    have A3 := Aside0.mk A30
    clear A30
    by_cases c4 : t101.length + l0.length < 140737488355328
    · rw [if_pos c4] at H
      have LMc4 := Aside0.mk c4
      clear c4
      obtain ⟨y104, hy104⟩ : ∃ y_ : List Int, y_ = (t101 ++ l0) := ⟨_, rfl⟩
      replace H : (lyndon_Turn.l0 k l0 0 y104 (l0.length : Int) 0) = some (r1, r2) := by first | (rw [hy104]; with_reducible exact H) | (have H2_ := (Option.bind_some _ _).symm.trans H; rw [hy104]; with_reducible exact H2_) | (have H2_ := (Option.bind_some _ _).symm.trans H; with_reducible exact H2_) | with_reducible exact H | (rw [hy104]; exact H) | exact H
      have Ny104 := Aside0.mk hy104
      clear hy104
      have H' := Aside0.mk H
      clear H
      go_enter Try.func15, Try.ntmps15
      go_wp2_with (first | (go_at_call 47; (with_reducible refine (bytes_Clone.calls _ _ l0 t101 _ ?side1 ?side2 A3.out).mono ?_); (case side1 => repeat (first | exact HR0.out | (with_reducible refine Kd.C_alloc ?_ _) | (with_reducible refine Kd.C_drewN ?_ _) | (with_reducible refine Kd.C_drew ?_))); (case side2 => exact HC0.out); rintro e w5 ⟨v102, rfl, ho0, hb⟩; have n0_ := Aside0.mk (Kd.R_lower ho0 (below_size (by repeat (first | (with_reducible first | exact HB.out | apply below_alloc | apply pw_below_drewN | apply below_drew1) | exact HB.out)))); have n1_ := Aside0.mk (below_step (by repeat (first | (with_reducible first | exact HB.out | apply below_alloc | apply pw_below_drewN | apply below_drew1) | exact HB.out)) hb); clear HB; have HO103 := n0_; have HB := n1_; clear n0_ n1_; (try clear hb); (try clear hb2); (try clear hk); (try clear hi); (try clear ho0)) | ((with_reducible refine gate_builtin (b := .append) (xs := #[.tmp 11, .tmp 12]) rfl ?_); at_builtin; refine Kd.R_append_rows (Kd.int .u8) (w0 := w) w.heap.size rfl (.tmp 11) (.tmp 12) 22 5 (.int .u8 0) 1 rfl Try.underlying22 info5 rfl (by decide) (by omega) v102 t101 l0 _ _ _ (fun _ => True) (fun _ => False) rfl rfl ?aO ?aR (fun _ _ h => h) (fun _ h => h.elim) ?aF ?aB ?aS ?aL ?_; (case aR => repeat (first | exact (Kd.C_below HR0.out HB.out) | (with_reducible refine Kd.C_alloc ?_ _) | (with_reducible refine Kd.C_drewN ?_ _) | (with_reducible refine Kd.C_drew ?_))); (case aB => exact (by repeat (first | (with_reducible first | exact HB.out | apply below_alloc | apply pw_below_drewN | apply below_drew1) | exact HB.out))); (case aF => exact (fun _ _ => trivial)); (case aO => exact (by (with_reducible repeat (first | apply Kd.R_alloc | apply Kd.R_drewN | apply Kd.R_drew)); exact HO103.out)); (case aS => exact (below_size (by repeat (first | (with_reducible first | exact HB.out | apply below_alloc | apply pw_below_drewN | apply below_drew1) | exact HB.out)))); (case aL => have := LMc4.out; omega); intro v105 w6 ho hb hg hat; rw [← Ny104.out] at ho; have n0_ := Aside0.mk (hb); have n1_ := Aside0.mk (ho); clear HB; clear HO103; have HB := n0_; have HO106 := n1_; clear n0_ n1_; clear ho hb hg hat))
      repeat (go_quiet (first | (go_at_call 47; (with_reducible refine (bytes_Clone.calls _ _ l0 t101 _ ?side1 ?side2 A3.out).mono ?_); (case side1 => repeat (first | exact HR0.out | (with_reducible refine Kd.C_alloc ?_ _) | (with_reducible refine Kd.C_drewN ?_ _) | (with_reducible refine Kd.C_drew ?_))); (case side2 => exact HC0.out); rintro e w5 ⟨v102, rfl, ho0, hb⟩; have n0_ := Aside0.mk (Kd.R_lower ho0 (below_size (by repeat (first | (with_reducible first | exact HB.out | apply below_alloc | apply pw_below_drewN | apply below_drew1) | exact HB.out)))); have n1_ := Aside0.mk (below_step (by repeat (first | (with_reducible first | exact HB.out | apply below_alloc | apply pw_below_drewN | apply below_drew1) | exact HB.out)) hb); clear HB; have HO103 := n0_; have HB := n1_; clear n0_ n1_; (try clear hb); (try clear hb2); (try clear hk); (try clear hi); (try clear ho0)) | ((with_reducible refine gate_builtin (b := .append) (xs := #[.tmp 11, .tmp 12]) rfl ?_); at_builtin; refine Kd.R_append_rows (Kd.int .u8) (w0 := w) w.heap.size rfl (.tmp 11) (.tmp 12) 22 5 (.int .u8 0) 1 rfl Try.underlying22 info5 rfl (by decide) (by omega) v102 t101 l0 _ _ _ (fun _ => True) (fun _ => False) rfl rfl ?aO ?aR (fun _ _ h => h) (fun _ h => h.elim) ?aF ?aB ?aS ?aL ?_; (case aR => repeat (first | exact (Kd.C_below HR0.out HB.out) | (with_reducible refine Kd.C_alloc ?_ _) | (with_reducible refine Kd.C_drewN ?_ _) | (with_reducible refine Kd.C_drew ?_))); (case aB => exact (by repeat (first | (with_reducible first | exact HB.out | apply below_alloc | apply pw_below_drewN | apply below_drew1) | exact HB.out))); (case aF => exact (fun _ _ => trivial)); (case aO => exact (by (with_reducible repeat (first | apply Kd.R_alloc | apply Kd.R_drewN | apply Kd.R_drew)); exact HO103.out)); (case aS => exact (below_size (by repeat (first | (with_reducible first | exact HB.out | apply below_alloc | apply pw_below_drewN | apply below_drew1) | exact HB.out)))); (case aL => have := LMc4.out; omega); intro v105 w6 ho hb hg hat; rw [← Ny104.out] at ho; have n0_ := Aside0.mk (hb); have n1_ := Aside0.mk (ho); clear HB; clear HO103; have HB := n0_; have HO106 := n1_; clear n0_ n1_; clear ho hb hg hat)); try go_wp2_with (first | (go_at_call 47; (with_reducible refine (bytes_Clone.calls _ _ l0 t101 _ ?side1 ?side2 A3.out).mono ?_); (case side1 => repeat (first | exact HR0.out | (with_reducible refine Kd.C_alloc ?_ _) | (with_reducible refine Kd.C_drewN ?_ _) | (with_reducible refine Kd.C_drew ?_))); (case side2 => exact HC0.out); rintro e w5 ⟨v102, rfl, ho0, hb⟩; have n0_ := Aside0.mk (Kd.R_lower ho0 (below_size (by repeat (first | (with_reducible first | exact HB.out | apply below_alloc | apply pw_below_drewN | apply below_drew1) | exact HB.out)))); have n1_ := Aside0.mk (below_step (by repeat (first | (with_reducible first | exact HB.out | apply below_alloc | apply pw_below_drewN | apply below_drew1) | exact HB.out)) hb); clear HB; have HO103 := n0_; have HB := n1_; clear n0_ n1_; (try clear hb); (try clear hb2); (try clear hk); (try clear hi); (try clear ho0)) | ((with_reducible refine gate_builtin (b := .append) (xs := #[.tmp 11, .tmp 12]) rfl ?_); at_builtin; refine Kd.R_append_rows (Kd.int .u8) (w0 := w) w.heap.size rfl (.tmp 11) (.tmp 12) 22 5 (.int .u8 0) 1 rfl Try.underlying22 info5 rfl (by decide) (by omega) v102 t101 l0 _ _ _ (fun _ => True) (fun _ => False) rfl rfl ?aO ?aR (fun _ _ h => h) (fun _ h => h.elim) ?aF ?aB ?aS ?aL ?_; (case aR => repeat (first | exact (Kd.C_below HR0.out HB.out) | (with_reducible refine Kd.C_alloc ?_ _) | (with_reducible refine Kd.C_drewN ?_ _) | (with_reducible refine Kd.C_drew ?_))); (case aB => exact (by repeat (first | (with_reducible first | exact HB.out | apply below_alloc | apply pw_below_drewN | apply below_drew1) | exact HB.out))); (case aF => exact (fun _ _ => trivial)); (case aO => exact (by (with_reducible repeat (first | apply Kd.R_alloc | apply Kd.R_drewN | apply Kd.R_drew)); exact HO103.out)); (case aS => exact (below_size (by repeat (first | (with_reducible first | exact HB.out | apply below_alloc | apply pw_below_drewN | apply below_drew1) | exact HB.out)))); (case aL => have := LMc4.out; omega); intro v105 w6 ho hb hg hat; rw [← Ny104.out] at ho; have n0_ := Aside0.mk (hb); have n1_ := Aside0.mk (ho); clear HB; clear HO103; have HB := n0_; have HO106 := n1_; clear n0_ n1_; clear ho hb hg hat)))
      go_loopg [4, 16] k (fun kq v4 v16 w' => ∃ (x4_1 : Int) (x16_1 : Int), v4 = .int .i64 x4_1 ∧ v16 = .int .i64 x16_1 ∧ Aside0 (lyndon_Turn.l0 kq l0 x4_1 y104 (l0.length : Int) x16_1 = some (r1, r2)) ∧ Aside0 (kq ≤ k) ∧ Aside0 (Kd.R (Kd.int .u8) 5 w' w.heap.size (fun _ => True) v105 y104) ∧ Aside0 (Below w.heap.size w w'))
      case atStart => exact ⟨(0), (0), (by first | rfl | (simp; done) | (simp [*]; done)), (by first | rfl | (simp; done) | (simp [*]; done)), H', ⟨Nat.le_refl _⟩, ⟨by (with_reducible repeat (first | apply Kd.R_alloc | apply Kd.R_drewN | apply Kd.R_drew)); exact HO106.out⟩, ⟨by repeat (first | (with_reducible first | exact HB.out | apply below_alloc | apply pw_below_drewN | apply below_drew1) | exact HB.out)⟩⟩
      case round =>
        clear H'
        try clear c1
        try clear c2
        try clear c2b0
        try clear c2b1
        try clear p2
        try clear c4
        obtain ⟨x4_1, x16_1, rfl, rfl, HA, HK1, HO_5, HB⟩ := hrel
        cases gk with
        | zero => exact absurd HA.out (by simp [lyndon_Turn.l0])
        | succ k1 =>
          have H := HA.out
          clear HA
          simp only [lyndon_Turn.l0] at H
          by_cases c7 : x16_1 < (l0.length : Int)
          · rw [if_pos c7] at H
            have c7b0 : decide (x16_1 < (l0.length : Int)) = true := decide_eq_true c7
            clear c7
            by_cases c8 : 0 ≤ x16_1
            · rw [if_pos c8] at H
              have c8b0 := eq_true c8
              have c8b1 : decide (0 ≤ x16_1) = true := decide_eq_true c8
              clear c8
              by_cases c9 : x16_1 ≤ (wrap64 (x16_1 + (l0.length : Int)))
              · rw [if_pos c9] at H
                have c9b0 := eq_true c9
                have c9b1 : decide (x16_1 ≤ (wrap64 (x16_1 + (l0.length : Int)))) = true := decide_eq_true c9
                by_cases c10 : (wrap64 (x16_1 + (l0.length : Int))) ≤ (y104.length : Int)
                · rw [if_pos c10] at H
                  have c10b0 := eq_true c10
                  have c10b1 : decide ((wrap64 (x16_1 + (l0.length : Int))) ≤ (y104.length : Int)) = true := decide_eq_true c10
                  obtain ⟨y107, hy107⟩ : ∃ y_ : List Int, y_ = ((y104.take ((wrap64 (x16_1 + (l0.length : Int))) : Int).toNat).drop (x16_1 : Int).toNat) := ⟨_, rfl⟩
                  replace H : (if 0 ≤ x4_1 then (if x4_1 ≤ (wrap64 (x4_1 + (l0.length : Int))) then (if (wrap64 (x4_1 + (l0.length : Int))) ≤ (y104.length : Int) then ((bytes_Compare.f y107 ((y104.take ((wrap64 (x4_1 + (l0.length : Int))) : Int).toNat).drop (x4_1 : Int).toNat)).bind fun t115 => (if t115 < 0 then (lyndon_Turn.l0 k1 l0 x16_1 y104 (l0.length : Int) (wrap64 (x16_1 + 1))) else (lyndon_Turn.l0 k1 l0 x4_1 y104 (l0.length : Int) (wrap64 (x16_1 + 1))))) else (none)) else (none)) else (none)) = some (r1, r2) := by first | (rw [hy107]; with_reducible exact H) | (have H2_ := (Option.bind_some _ _).symm.trans H; rw [hy107]; with_reducible exact H2_) | (have H2_ := (Option.bind_some _ _).symm.trans H; with_reducible exact H2_) | with_reducible exact H | (rw [hy107]; exact H) | exact H
                  have Ny107 := Aside0.mk hy107
                  clear hy107
                  by_cases c11 : 0 ≤ x4_1
                  · rw [if_pos c11] at H
                    have c11b0 := eq_true c11
                    have c11b1 : decide (0 ≤ x4_1) = true := decide_eq_true c11
                    clear c11
                    by_cases c12 : x4_1 ≤ (wrap64 (x4_1 + (l0.length : Int)))
                    · rw [if_pos c12] at H
                      have c12b0 := eq_true c12
                      have c12b1 : decide (x4_1 ≤ (wrap64 (x4_1 + (l0.length : Int)))) = true := decide_eq_true c12
                      by_cases c13 : (wrap64 (x4_1 + (l0.length : Int))) ≤ (y104.length : Int)
                      · rw [if_pos c13] at H
                        have c13b0 := eq_true c13
                        have c13b1 : decide ((wrap64 (x4_1 + (l0.length : Int))) ≤ (y104.length : Int)) = true := decide_eq_true c13
                        obtain ⟨y111, hy111⟩ : ∃ y_ : List Int, y_ = ((y104.take ((wrap64 (x4_1 + (l0.length : Int))) : Int).toNat).drop (x4_1 : Int).toNat) := ⟨_, rfl⟩
                        replace H : ((bytes_Compare.f y107 y111).bind fun t115 => (if t115 < 0 then (lyndon_Turn.l0 k1 l0 x16_1 y104 (l0.length : Int) (wrap64 (x16_1 + 1))) else (lyndon_Turn.l0 k1 l0 x4_1 y104 (l0.length : Int) (wrap64 (x16_1 + 1))))) = some (r1, r2) := by first | (rw [hy111]; with_reducible exact H) | (have H2_ := (Option.bind_some _ _).symm.trans H; rw [hy111]; with_reducible exact H2_) | (have H2_ := (Option.bind_some _ _).symm.trans H; with_reducible exact H2_) | with_reducible exact H | (rw [hy111]; exact H) | exact H
                        have Ny111 := Aside0.mk hy111
                        clear hy111
                        replace H := Option.bind_eq_some_iff.mp H
                        obtain ⟨t115, A140, H⟩ := H
                        replace H : (if t115 < 0 then (lyndon_Turn.l0 k1 l0 x16_1 y104 (l0.length : Int) (wrap64 (x16_1 + 1))) else (lyndon_Turn.l0 k1 l0 x4_1 y104 (l0.length : Int) (wrap64 (x16_1 + 1)))) = some (r1, r2) := H
                        have A14 := Aside0.mk A140
                        clear A140
                        by_cases c15 : t115 < 0
                        · rw [if_pos c15] at H
                          have c15b0 : decide (t115 < 0) = true := decide_eq_true c15
                          clear c15
                          have H' := Aside0.mk H
                          clear H
                          obtain ⟨Ao17, co17, eo17⟩ := Kd.R_slice HO_5.out
                          subst eo17
                          have q16 : ((wrap64 (x16_1 + (l0.length : Int))) : Int) ≤ ((y104.length : Int) : Int) := of_decide_eq_true (by first | (with_reducible assumption) | assumption)
                          obtain ⟨i016, hi016, _, hsz16, _⟩ := info_parts info5
                          have hroom16 : y104.length ≤ co17 := (Kd.R_reads' HO_5.out).2.1
                          have hC16 : Kd.C (Kd.int .u8) _ Ao17 y104.length y104 := (Kd.R_reads' HO_5.out).2.2
                          have ql16 : (x16_1 : Int) ≤ ((wrap64 (x16_1 + (l0.length : Int))) : Int) := of_decide_eq_true (by first | (with_reducible assumption) | assumption)
                          have q016 : (0 : Int) ≤ (x16_1 : Int) := of_decide_eq_true (by first | (with_reducible assumption) | assumption)
                          have hcut16 := cut_mid (P := Try.prog) 22 5 .i64 .i64 Try.underlying22 hi016 1 hsz16 Ao17 y104.length co17 x16_1 (wrap64 (x16_1 + (l0.length : Int))) q016 ql16 q16 hroom16
                          have hr16 := Kd.C_mid (lo := (x16_1 : Int).toNat) (hi := ((wrap64 (x16_1 + (l0.length : Int))) : Int).toNat) (c := co17) hC16 (by omega) (by omega) hroom16
                          obtain ⟨A16, hA16⟩ : ∃ A1, A1 = (if co17 = (x16_1 : Int).toNat then Ao17 else (Ao17 : Option Addr).map (·.add ((x16_1 : Int).toNat * 1))) := ⟨_, rfl⟩
                          obtain ⟨c16, hc16⟩ : ∃ c1, c1 = co17 - (x16_1 : Int).toNat := ⟨_, rfl⟩
                          have hy16 : y107.length = ((wrap64 (x16_1 + (l0.length : Int))) : Int).toNat - (x16_1 : Int).toNat := (by rw [Ny107.out, List.length_drop, List.length_take] <;> omega)
                          rw [show ((y104).take ((wrap64 (x16_1 + (l0.length : Int))) : Int).toNat).drop (x16_1 : Int).toNat = y107 from Ny107.out.symm] at hr16
                          replace hr16 : Kd.C (Kd.int .u8) _ A16 y107.length y107 := (by rw [hA16]; exact hr16)
                          rw [← hy16, ← hA16, ← hc16] at hcut16
                          have HR110 := Aside0.mk hr16
                          have HC110 := Aside0.mk (show y107.length ≤ c16 from by rw [hy16, hc16]; exact Nat.sub_le_sub_right (Nat.le_trans (by omega) hroom16) _)
                          clear hr16 hC16 hroom16 hi016 hsz16 hc16
                          have KY16 := Aside0.mk hy16
                          have KA16 := Aside0.mk hA16
                          clear hy16 hA16
                          have KL16 := Aside0.mk (show ((wrap64 (x16_1 + (l0.length : Int))) : Int).toNat ≤ y104.length from by omega)
                          have KM16 := Aside0.mk (show (x16_1 : Int).toNat ≤ ((wrap64 (x16_1 + (l0.length : Int))) : Int).toNat from by omega)
                          replace q16 := eq_true q16
                          have q18 : ((wrap64 (x4_1 + (l0.length : Int))) : Int) ≤ ((y104.length : Int) : Int) := of_decide_eq_true (by first | (with_reducible assumption) | assumption)
                          obtain ⟨i018, hi018, _, hsz18, _⟩ := info_parts info5
                          have hroom18 : y104.length ≤ co17 := (Kd.R_reads' HO_5.out).2.1
                          have hC18 : Kd.C (Kd.int .u8) _ Ao17 y104.length y104 := (Kd.R_reads' HO_5.out).2.2
                          have ql18 : (x4_1 : Int) ≤ ((wrap64 (x4_1 + (l0.length : Int))) : Int) := of_decide_eq_true (by first | (with_reducible assumption) | assumption)
                          have q018 : (0 : Int) ≤ (x4_1 : Int) := of_decide_eq_true (by first | (with_reducible assumption) | assumption)
                          have hcut18 := cut_mid (P := Try.prog) 22 5 .i64 .i64 Try.underlying22 hi018 1 hsz18 Ao17 y104.length co17 x4_1 (wrap64 (x4_1 + (l0.length : Int))) q018 ql18 q18 hroom18
                          have hr18 := Kd.C_mid (lo := (x4_1 : Int).toNat) (hi := ((wrap64 (x4_1 + (l0.length : Int))) : Int).toNat) (c := co17) hC18 (by omega) (by omega) hroom18
                          obtain ⟨A18, hA18⟩ : ∃ A1, A1 = (if co17 = (x4_1 : Int).toNat then Ao17 else (Ao17 : Option Addr).map (·.add ((x4_1 : Int).toNat * 1))) := ⟨_, rfl⟩
                          obtain ⟨c18, hc18⟩ : ∃ c1, c1 = co17 - (x4_1 : Int).toNat := ⟨_, rfl⟩
                          have hy18 : y111.length = ((wrap64 (x4_1 + (l0.length : Int))) : Int).toNat - (x4_1 : Int).toNat := (by rw [Ny111.out, List.length_drop, List.length_take] <;> omega)
                          rw [show ((y104).take ((wrap64 (x4_1 + (l0.length : Int))) : Int).toNat).drop (x4_1 : Int).toNat = y111 from Ny111.out.symm] at hr18
                          replace hr18 : Kd.C (Kd.int .u8) _ A18 y111.length y111 := (by rw [hA18]; exact hr18)
                          rw [← hy18, ← hA18, ← hc18] at hcut18
                          have HR114 := Aside0.mk hr18
                          have HC114 := Aside0.mk (show y111.length ≤ c18 from by rw [hy18, hc18]; exact Nat.sub_le_sub_right (Nat.le_trans (by omega) hroom18) _)
                          clear hr18 hC18 hroom18 hi018 hsz18 hc18
                          have KY18 := Aside0.mk hy18
                          have KA18 := Aside0.mk hA18
                          clear hy18 hA18
                          have KL18 := Aside0.mk (show ((wrap64 (x4_1 + (l0.length : Int))) : Int).toNat ≤ y104.length from by omega)
                          have KM18 := Aside0.mk (show (x4_1 : Int).toNat ≤ ((wrap64 (x4_1 + (l0.length : Int))) : Int).toNat from by omega)
                          replace q18 := eq_true q18
                          go_wp2_with (first | (go_at_call 48; refine calls_of_args (args' := #[.slice A16 y107.length c16, .slice A18 y111.length c18]) (by first | rfl | rfl | (simp only [List.length_drop, List.length_take]; done) | (simp [*]; done) | (simp [*]; omega)) ?_; (with_reducible refine (bytes_Compare.calls _ _ y107 _ _ y111 t115 _ ?side1 ?side2 ?side3 ?side4 A14.out).mono ?_); (case side1 => repeat (first | exact (by repeat (first | (with_reducible exact HR110.out) | (with_reducible refine Kd.C_alloc ?_ _) | (with_reducible refine Kd.C_drewN ?_ _) | (with_reducible refine Kd.C_drew ?_) | exact HR110.out)) | (with_reducible refine Kd.C_alloc ?_ _) | (with_reducible refine Kd.C_drewN ?_ _) | (with_reducible refine Kd.C_drew ?_))); (case side2 => exact HC110.out); (case side3 => repeat (first | exact (by repeat (first | (with_reducible exact HR114.out) | (with_reducible refine Kd.C_alloc ?_ _) | (with_reducible refine Kd.C_drewN ?_ _) | (with_reducible refine Kd.C_drew ?_) | exact HR114.out)) | (with_reducible refine Kd.C_alloc ?_ _) | (with_reducible refine Kd.C_drewN ?_ _) | (with_reducible refine Kd.C_drew ?_))); (case side4 => exact HC114.out); rintro e w' ⟨rfl, ⟨nd, rfl⟩⟩; (try first | exact ⟨rfl, _, World.drewN_drewN _ _ _⟩ | exact ⟨rfl, _, Eq.trans (World.drewN_drewN _ _ _) (congrArg (World.drewN _) (Nat.add_assoc _ _ _))⟩)))
                          repeat (go_quiet (first | (go_at_call 48; refine calls_of_args (args' := #[.slice A16 y107.length c16, .slice A18 y111.length c18]) (by first | rfl | rfl | (simp only [List.length_drop, List.length_take]; done) | (simp [*]; done) | (simp [*]; omega)) ?_; (with_reducible refine (bytes_Compare.calls _ _ y107 _ _ y111 t115 _ ?side1 ?side2 ?side3 ?side4 A14.out).mono ?_); (case side1 => repeat (first | exact (by repeat (first | (with_reducible exact HR110.out) | (with_reducible refine Kd.C_alloc ?_ _) | (with_reducible refine Kd.C_drewN ?_ _) | (with_reducible refine Kd.C_drew ?_) | exact HR110.out)) | (with_reducible refine Kd.C_alloc ?_ _) | (with_reducible refine Kd.C_drewN ?_ _) | (with_reducible refine Kd.C_drew ?_))); (case side2 => exact HC110.out); (case side3 => repeat (first | exact (by repeat (first | (with_reducible exact HR114.out) | (with_reducible refine Kd.C_alloc ?_ _) | (with_reducible refine Kd.C_drewN ?_ _) | (with_reducible refine Kd.C_drew ?_) | exact HR114.out)) | (with_reducible refine Kd.C_alloc ?_ _) | (with_reducible refine Kd.C_drewN ?_ _) | (with_reducible refine Kd.C_drew ?_))); (case side4 => exact HC114.out); rintro e w' ⟨rfl, ⟨nd, rfl⟩⟩; (try first | exact ⟨rfl, _, World.drewN_drewN _ _ _⟩ | exact ⟨rfl, _, Eq.trans (World.drewN_drewN _ _ _) (congrArg (World.drewN _) (Nat.add_assoc _ _ _))⟩))); try go_wp2_with (first | (go_at_call 48; refine calls_of_args (args' := #[.slice A16 y107.length c16, .slice A18 y111.length c18]) (by first | rfl | rfl | (simp only [List.length_drop, List.length_take]; done) | (simp [*]; done) | (simp [*]; omega)) ?_; (with_reducible refine (bytes_Compare.calls _ _ y107 _ _ y111 t115 _ ?side1 ?side2 ?side3 ?side4 A14.out).mono ?_); (case side1 => repeat (first | exact (by repeat (first | (with_reducible exact HR110.out) | (with_reducible refine Kd.C_alloc ?_ _) | (with_reducible refine Kd.C_drewN ?_ _) | (with_reducible refine Kd.C_drew ?_) | exact HR110.out)) | (with_reducible refine Kd.C_alloc ?_ _) | (with_reducible refine Kd.C_drewN ?_ _) | (with_reducible refine Kd.C_drew ?_))); (case side2 => exact HC110.out); (case side3 => repeat (first | exact (by repeat (first | (with_reducible exact HR114.out) | (with_reducible refine Kd.C_alloc ?_ _) | (with_reducible refine Kd.C_drewN ?_ _) | (with_reducible refine Kd.C_drew ?_) | exact HR114.out)) | (with_reducible refine Kd.C_alloc ?_ _) | (with_reducible refine Kd.C_drewN ?_ _) | (with_reducible refine Kd.C_drew ?_))); (case side4 => exact HC114.out); rintro e w' ⟨rfl, ⟨nd, rfl⟩⟩; (try first | exact ⟨rfl, _, World.drewN_drewN _ _ _⟩ | exact ⟨rfl, _, Eq.trans (World.drewN_drewN _ _ _) (congrArg (World.drewN _) (Nat.add_assoc _ _ _))⟩))))
                          go_roundg k1
                          case measure => have := HK1.out; omega
                          case rel => exact ⟨(x16_1), (wrap64 (x16_1 + 1)), (by first | rfl | (simp; done) | (simp [*]; done)), (by first | rfl | (simp; done) | (simp [*]; done)), H', ⟨by have := HK1.out; omega⟩, ⟨by (with_reducible repeat (first | apply Kd.R_alloc | apply Kd.R_drewN | apply Kd.R_drew)); exact HO_5.out⟩, ⟨by repeat (first | (with_reducible first | exact HB.out | apply below_alloc | apply pw_below_drewN | apply below_drew1) | exact HB.out)⟩⟩
                        · rw [if_neg c15] at H
                          have c15b0 : decide (t115 < 0) = false := decide_eq_false c15
                          clear c15
                          have H' := Aside0.mk H
                          clear H
                          obtain ⟨Ao20, co20, eo20⟩ := Kd.R_slice HO_5.out
                          subst eo20
                          have q19 : ((wrap64 (x16_1 + (l0.length : Int))) : Int) ≤ ((y104.length : Int) : Int) := of_decide_eq_true (by first | (with_reducible assumption) | assumption)
                          obtain ⟨i019, hi019, _, hsz19, _⟩ := info_parts info5
                          have hroom19 : y104.length ≤ co20 := (Kd.R_reads' HO_5.out).2.1
                          have hC19 : Kd.C (Kd.int .u8) _ Ao20 y104.length y104 := (Kd.R_reads' HO_5.out).2.2
                          have ql19 : (x16_1 : Int) ≤ ((wrap64 (x16_1 + (l0.length : Int))) : Int) := of_decide_eq_true (by first | (with_reducible assumption) | assumption)
                          have q019 : (0 : Int) ≤ (x16_1 : Int) := of_decide_eq_true (by first | (with_reducible assumption) | assumption)
                          have hcut19 := cut_mid (P := Try.prog) 22 5 .i64 .i64 Try.underlying22 hi019 1 hsz19 Ao20 y104.length co20 x16_1 (wrap64 (x16_1 + (l0.length : Int))) q019 ql19 q19 hroom19
                          have hr19 := Kd.C_mid (lo := (x16_1 : Int).toNat) (hi := ((wrap64 (x16_1 + (l0.length : Int))) : Int).toNat) (c := co20) hC19 (by omega) (by omega) hroom19
                          obtain ⟨A19, hA19⟩ : ∃ A1, A1 = (if co20 = (x16_1 : Int).toNat then Ao20 else (Ao20 : Option Addr).map (·.add ((x16_1 : Int).toNat * 1))) := ⟨_, rfl⟩
                          obtain ⟨c19, hc19⟩ : ∃ c1, c1 = co20 - (x16_1 : Int).toNat := ⟨_, rfl⟩
                          have hy19 : y107.length = ((wrap64 (x16_1 + (l0.length : Int))) : Int).toNat - (x16_1 : Int).toNat := (by rw [Ny107.out, List.length_drop, List.length_take] <;> omega)
                          rw [show ((y104).take ((wrap64 (x16_1 + (l0.length : Int))) : Int).toNat).drop (x16_1 : Int).toNat = y107 from Ny107.out.symm] at hr19
                          replace hr19 : Kd.C (Kd.int .u8) _ A19 y107.length y107 := (by rw [hA19]; exact hr19)
                          rw [← hy19, ← hA19, ← hc19] at hcut19
                          have HR110 := Aside0.mk hr19
                          have HC110 := Aside0.mk (show y107.length ≤ c19 from by rw [hy19, hc19]; exact Nat.sub_le_sub_right (Nat.le_trans (by omega) hroom19) _)
                          clear hr19 hC19 hroom19 hi019 hsz19 hc19
                          have KY19 := Aside0.mk hy19
                          have KA19 := Aside0.mk hA19
                          clear hy19 hA19
                          have KL19 := Aside0.mk (show ((wrap64 (x16_1 + (l0.length : Int))) : Int).toNat ≤ y104.length from by omega)
                          have KM19 := Aside0.mk (show (x16_1 : Int).toNat ≤ ((wrap64 (x16_1 + (l0.length : Int))) : Int).toNat from by omega)
                          replace q19 := eq_true q19
                          have q21 : ((wrap64 (x4_1 + (l0.length : Int))) : Int) ≤ ((y104.length : Int) : Int) := of_decide_eq_true (by first | (with_reducible assumption) | assumption)
                          obtain ⟨i021, hi021, _, hsz21, _⟩ := info_parts info5
                          have hroom21 : y104.length ≤ co20 := (Kd.R_reads' HO_5.out).2.1
                          have hC21 : Kd.C (Kd.int .u8) _ Ao20 y104.length y104 := (Kd.R_reads' HO_5.out).2.2
                          have ql21 : (x4_1 : Int) ≤ ((wrap64 (x4_1 + (l0.length : Int))) : Int) := of_decide_eq_true (by first | (with_reducible assumption) | assumption)
                          have q021 : (0 : Int) ≤ (x4_1 : Int) := of_decide_eq_true (by first | (with_reducible assumption) | assumption)
                          have hcut21 := cut_mid (P := Try.prog) 22 5 .i64 .i64 Try.underlying22 hi021 1 hsz21 Ao20 y104.length co20 x4_1 (wrap64 (x4_1 + (l0.length : Int))) q021 ql21 q21 hroom21
                          have hr21 := Kd.C_mid (lo := (x4_1 : Int).toNat) (hi := ((wrap64 (x4_1 + (l0.length : Int))) : Int).toNat) (c := co20) hC21 (by omega) (by omega) hroom21
                          obtain ⟨A21, hA21⟩ : ∃ A1, A1 = (if co20 = (x4_1 : Int).toNat then Ao20 else (Ao20 : Option Addr).map (·.add ((x4_1 : Int).toNat * 1))) := ⟨_, rfl⟩
                          obtain ⟨c21, hc21⟩ : ∃ c1, c1 = co20 - (x4_1 : Int).toNat := ⟨_, rfl⟩
                          have hy21 : y111.length = ((wrap64 (x4_1 + (l0.length : Int))) : Int).toNat - (x4_1 : Int).toNat := (by rw [Ny111.out, List.length_drop, List.length_take] <;> omega)
                          rw [show ((y104).take ((wrap64 (x4_1 + (l0.length : Int))) : Int).toNat).drop (x4_1 : Int).toNat = y111 from Ny111.out.symm] at hr21
                          replace hr21 : Kd.C (Kd.int .u8) _ A21 y111.length y111 := (by rw [hA21]; exact hr21)
                          rw [← hy21, ← hA21, ← hc21] at hcut21
                          have HR114 := Aside0.mk hr21
                          have HC114 := Aside0.mk (show y111.length ≤ c21 from by rw [hy21, hc21]; exact Nat.sub_le_sub_right (Nat.le_trans (by omega) hroom21) _)
                          clear hr21 hC21 hroom21 hi021 hsz21 hc21
                          have KY21 := Aside0.mk hy21
                          have KA21 := Aside0.mk hA21
                          clear hy21 hA21
                          have KL21 := Aside0.mk (show ((wrap64 (x4_1 + (l0.length : Int))) : Int).toNat ≤ y104.length from by omega)
                          have KM21 := Aside0.mk (show (x4_1 : Int).toNat ≤ ((wrap64 (x4_1 + (l0.length : Int))) : Int).toNat from by omega)
                          replace q21 := eq_true q21
                          go_wp2_with (first | (go_at_call 48; refine calls_of_args (args' := #[.slice A19 y107.length c19, .slice A21 y111.length c21]) (by first | rfl | rfl | (simp only [List.length_drop, List.length_take]; done) | (simp [*]; done) | (simp [*]; omega)) ?_; (with_reducible refine (bytes_Compare.calls _ _ y107 _ _ y111 t115 _ ?side1 ?side2 ?side3 ?side4 A14.out).mono ?_); (case side1 => repeat (first | exact (by repeat (first | (with_reducible exact HR110.out) | (with_reducible refine Kd.C_alloc ?_ _) | (with_reducible refine Kd.C_drewN ?_ _) | (with_reducible refine Kd.C_drew ?_) | exact HR110.out)) | (with_reducible refine Kd.C_alloc ?_ _) | (with_reducible refine Kd.C_drewN ?_ _) | (with_reducible refine Kd.C_drew ?_))); (case side2 => exact HC110.out); (case side3 => repeat (first | exact (by repeat (first | (with_reducible exact HR114.out) | (with_reducible refine Kd.C_alloc ?_ _) | (with_reducible refine Kd.C_drewN ?_ _) | (with_reducible refine Kd.C_drew ?_) | exact HR114.out)) | (with_reducible refine Kd.C_alloc ?_ _) | (with_reducible refine Kd.C_drewN ?_ _) | (with_reducible refine Kd.C_drew ?_))); (case side4 => exact HC114.out); rintro e w' ⟨rfl, ⟨nd, rfl⟩⟩; (try first | exact ⟨rfl, _, World.drewN_drewN _ _ _⟩ | exact ⟨rfl, _, Eq.trans (World.drewN_drewN _ _ _) (congrArg (World.drewN _) (Nat.add_assoc _ _ _))⟩)))
                          repeat (go_quiet (first | (go_at_call 48; refine calls_of_args (args' := #[.slice A19 y107.length c19, .slice A21 y111.length c21]) (by first | rfl | rfl | (simp only [List.length_drop, List.length_take]; done) | (simp [*]; done) | (simp [*]; omega)) ?_; (with_reducible refine (bytes_Compare.calls _ _ y107 _ _ y111 t115 _ ?side1 ?side2 ?side3 ?side4 A14.out).mono ?_); (case side1 => repeat (first | exact (by repeat (first | (with_reducible exact HR110.out) | (with_reducible refine Kd.C_alloc ?_ _) | (with_reducible refine Kd.C_drewN ?_ _) | (with_reducible refine Kd.C_drew ?_) | exact HR110.out)) | (with_reducible refine Kd.C_alloc ?_ _) | (with_reducible refine Kd.C_drewN ?_ _) | (with_reducible refine Kd.C_drew ?_))); (case side2 => exact HC110.out); (case side3 => repeat (first | exact (by repeat (first | (with_reducible exact HR114.out) | (with_reducible refine Kd.C_alloc ?_ _) | (with_reducible refine Kd.C_drewN ?_ _) | (with_reducible refine Kd.C_drew ?_) | exact HR114.out)) | (with_reducible refine Kd.C_alloc ?_ _) | (with_reducible refine Kd.C_drewN ?_ _) | (with_reducible refine Kd.C_drew ?_))); (case side4 => exact HC114.out); rintro e w' ⟨rfl, ⟨nd, rfl⟩⟩; (try first | exact ⟨rfl, _, World.drewN_drewN _ _ _⟩ | exact ⟨rfl, _, Eq.trans (World.drewN_drewN _ _ _) (congrArg (World.drewN _) (Nat.add_assoc _ _ _))⟩))); try go_wp2_with (first | (go_at_call 48; refine calls_of_args (args' := #[.slice A19 y107.length c19, .slice A21 y111.length c21]) (by first | rfl | rfl | (simp only [List.length_drop, List.length_take]; done) | (simp [*]; done) | (simp [*]; omega)) ?_; (with_reducible refine (bytes_Compare.calls _ _ y107 _ _ y111 t115 _ ?side1 ?side2 ?side3 ?side4 A14.out).mono ?_); (case side1 => repeat (first | exact (by repeat (first | (with_reducible exact HR110.out) | (with_reducible refine Kd.C_alloc ?_ _) | (with_reducible refine Kd.C_drewN ?_ _) | (with_reducible refine Kd.C_drew ?_) | exact HR110.out)) | (with_reducible refine Kd.C_alloc ?_ _) | (with_reducible refine Kd.C_drewN ?_ _) | (with_reducible refine Kd.C_drew ?_))); (case side2 => exact HC110.out); (case side3 => repeat (first | exact (by repeat (first | (with_reducible exact HR114.out) | (with_reducible refine Kd.C_alloc ?_ _) | (with_reducible refine Kd.C_drewN ?_ _) | (with_reducible refine Kd.C_drew ?_) | exact HR114.out)) | (with_reducible refine Kd.C_alloc ?_ _) | (with_reducible refine Kd.C_drewN ?_ _) | (with_reducible refine Kd.C_drew ?_))); (case side4 => exact HC114.out); rintro e w' ⟨rfl, ⟨nd, rfl⟩⟩; (try first | exact ⟨rfl, _, World.drewN_drewN _ _ _⟩ | exact ⟨rfl, _, Eq.trans (World.drewN_drewN _ _ _) (congrArg (World.drewN _) (Nat.add_assoc _ _ _))⟩))))
                          go_roundg k1
                          case measure => have := HK1.out; omega
                          case rel => exact ⟨(x4_1), (wrap64 (x16_1 + 1)), (by first | rfl | (simp; done) | (simp [*]; done)), (by first | rfl | (simp; done) | (simp [*]; done)), H', ⟨by have := HK1.out; omega⟩, ⟨by (with_reducible repeat (first | apply Kd.R_alloc | apply Kd.R_drewN | apply Kd.R_drew)); exact HO_5.out⟩, ⟨by repeat (first | (with_reducible first | exact HB.out | apply below_alloc | apply pw_below_drewN | apply below_drew1) | exact HB.out)⟩⟩
                      · rw [if_neg c13] at H
                        exact absurd H (by simp)
                    · rw [if_neg c12] at H
                      exact absurd H (by simp)
                  · rw [if_neg c11] at H
                    exact absurd H (by simp)
                · rw [if_neg c10] at H
                  exact absurd H (by simp)
              · rw [if_neg c9] at H
                exact absurd H (by simp)
            · rw [if_neg c8] at H
              exact absurd H (by simp)
          · rw [if_neg c7] at H
            have c7b0 : decide (x16_1 < (l0.length : Int)) = false := decide_eq_false c7
            clear c7
            simp only [Option.some.injEq, Prod.mk.injEq] at H
            obtain ⟨rfl, rfl⟩ := H
            go_wp2
            repeat (go_quiet (fail); try go_wp2)
            go_ret2
            exact ⟨by first | rfl | (simp [errW_none, errW_some] <;> rfl) | (simp [*, errW_none, errW_some] <;> rfl), by repeat (first | (with_reducible first | exact HB.out | apply below_alloc | apply pw_below_drewN | apply below_drew1) | exact HB.out)⟩
    · rw [if_neg c4] at H
      exact absurd H (by simp)

end Go.Proofs.Ytbblpddbkdiagaa.GA
