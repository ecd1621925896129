-- Written by ext.py, a program of this session.
import Derived.Test.YthgiiikjcfhgjaaGU0
import Derived.Test.YthgiiikjcfhgjaaGU6
import Derived.Test.YthgiiikjcfhgjaaGU8
namespace Go.Proofs.Ythgiiikjcfhgjaa.GU
open Go.RowKit Go.Proofs.YthgiiikjcfhgjaaW.PrintWords Go.Proofs.YthgiiikjcfhgjaaW.PrintLast Go.Proofs.YthgiiikjcfhgjaaW.PrintMore
attribute [local go_sem] max2_int min2_int max_two min_two max_three min_three max_four min_four cellIs_set   -- for this text's walks alone
set_option linter.unusedVariables false
set_option linter.unusedSimpArgs false

/-! ### coppicerkeep_grown: function 29 -/
def coppicerkeep_grown.f (k : Nat) (a0_0 : Int) (a0_1 : Int) (a0_2 : Int) (l0_3 : List (S126)) (l1 : List Int) : Option (Bool) := (coppicerref_GrammarCheck.f k a0_0 a0_1 a0_2 l0_3).bind fun t161 => (if t161 = 0 then ((coppicerref_WordCheck.f k a0_0 l1).bind fun t162 => (some (t162 == 0))) else (some false))
theorem coppicerkeep_grown.mono : ∀ a0 a1 a2 a3 a4 k, LeO (coppicerkeep_grown.f k a0 a1 a2 a3 a4) (coppicerkeep_grown.f (k + 1) a0 a1 a2 a3 a4) := by
  intro a0 a1 a2 a3 a4 k
  unfold coppicerkeep_grown.f
  repeat' first
      | (with_reducible exact coppicerref_GrammarCheck.mono _ _ _ _ _)
      | (with_reducible exact coppicerref_WordCheck.mono _ _ _)
      | (with_reducible exact LeO.refl _)
      | (with_reducible exact LeO.none _)
      | (with_reducible refine LeO.ite ?_ ?_)
      | (with_reducible refine LeO.bind ?_ (fun _ => ?_))
      | exact coppicerref_GrammarCheck.mono _ _ _ _ _
      | exact coppicerref_WordCheck.mono _ _ _
      | exact LeO.none _
      | refine LeO.ite ?_ ?_
      | refine LeO.bind ?_ (fun _ => ?_)
set_option maxHeartbeats 8000000 in
set_option maxRecDepth 100000 in
theorem coppicerkeep_grown.calls (k : Nat) (a0_0 : Int) (a0_1 : Int) (a0_2 : Int) (A0_3 : Option Addr) (c0_3 : Nat) (l0_3 : List (S126)) (A1 : Option Addr) (c1 : Nat) (l1 : List Int) (r : Bool) (w : World) (hr0_3 : Kd.C k126 w A0_3 l0_3.length l0_3) (hc0_3 : l0_3.length ≤ c0_3) (hr1 : Kd.C (Kd.int .i64) w A1 l1.length l1) (hc1 : l1.length ≤ c1) (h : coppicerkeep_grown.f k a0_0 a0_1 a0_2 l0_3 l1 = some r) :
    Calls Try.prog 29 #[.agg #[.int .i64 a0_0, .int .i64 a0_1, .int .i64 a0_2, .slice A0_3 l0_3.length c0_3], .slice A1 l1.length c1] w fun e w' => e = .returned (.bool r) ∧ Below w.heap.size w w' := by
  have hu51 := Try.underlying51
  have HR0_3 := Aside0.mk hr0_3
  have HC0_3 := Aside0.mk hc0_3
  clear hr0_3 hc0_3
  have HR1 := Aside0.mk hr1
  have HC1 := Aside0.mk hc1
  clear hr1 hc1
  have HB := Aside0.mk (Below.refl w.heap.size w)
  have H : ((coppicerref_GrammarCheck.f k a0_0 a0_1 a0_2 l0_3).bind fun t161 => (if t161 = 0 then ((coppicerref_WordCheck.f k a0_0 l1).bind fun t162 => (some (t162 == 0))) else (some false))) = some r := h
  clear h
  replace H := Option.bind_eq_some_iff.mp H
  obtain ⟨t161, A30, H⟩ := H
  replace H : (if t161 = 0 then ((coppicerref_WordCheck.f k a0_0 l1).bind fun t162 => (some (t162 == 0))) else (some false)) = some r := H
  have A3 := Aside0.mk A30
  clear A30
  by_cases c4 : t161 = 0
  · rw [if_pos c4] at H
    have c4b0 : (t161 == 0) = true := beq_iff_eq.mpr c4
    have c4b1 : (t161 != 0) = false := bne_eq_false_iff_eq.mpr c4
    clear c4
    replace H := Option.bind_eq_some_iff.mp H
    obtain ⟨t162, A50, H⟩ := H
    replace H : (some (t162 == 0)) = some r := H
    have A5 := Aside0.mk A50
    clear A50
    obtain rfl := Option.some.inj H
    go_enter Try.func29, Try.ntmps29
    go_wp2_with (first | ((with_reducible refine gate_dst (N := 2) rfl ?_); refine box_event ?hg (N := 2) ?hd (cs := #[.int .i64 a0_0, .int .i64 a0_1, .int .i64 a0_2, .slice A0_3 l0_3.length c0_3]) (t := 51) ?hr ?_; (case hd => rfl); (case hg => rfl); (case hr => first | (go_simp; done) | (go_simp; rfl)); intro gb160 hg w6 hbox hb; have n0_ := Aside0.mk (below_step (by repeat (first | (with_reducible first | exact HB.out | apply below_alloc | apply pw_below_drewN | apply below_drew1) | exact HB.out)) hb); have n1_ := Aside0.mk (hbox); have n2_ := Aside0.mk ((by rw [hg]; exact (below_size (by repeat (first | (with_reducible first | exact HB.out | apply below_alloc | apply pw_below_drewN | apply below_drew1) | exact HB.out))) : w.heap.size ≤ gb160)); have n3_ := Aside0.mk ((by rw [hg]; exact (below_size (by repeat (first | (with_reducible first | exact HB.out | apply below_alloc | apply pw_below_drewN | apply below_drew1) | exact HB.out))) : w.heap.size ≤ gb160)); clear HB; have HB := n0_; have BK160 := n1_; have GW160 := n2_; have GE160 := n3_; clear n0_ n1_ n2_ n3_; clear hb hbox hg; have hcz7_0 : w6.cell? ⟨gb160, 0, none⟩ = some (.int .i64 a0_0) := (blk_cell BK160.out 0).trans rfl; have hcz7_1 : w6.cell? ⟨gb160, 1, none⟩ = some (.int .i64 a0_1) := (blk_cell BK160.out 1).trans rfl; have hcz7_2 : w6.cell? ⟨gb160, 2, none⟩ = some (.int .i64 a0_2) := (blk_cell BK160.out 2).trans rfl; have hcz7_3 : w6.cell? ⟨gb160, 3, none⟩ = some (.slice A0_3 l0_3.length c0_3) := (blk_cell BK160.out 3).trans rfl; have hfz7_0 := blk_frozen BK160.out 0; have hfz7_1 := blk_frozen BK160.out 1; have hfz7_2 := blk_frozen BK160.out 2; have hfz7_3 := blk_frozen BK160.out 3) | ((with_reducible refine gate_callee (f := 41) rfl ?_); refine goesL_ (some 6) rfl rfl Try.func41 (by kernel_rfl) rfl #[.agg #[.int .i64 a0_0, .int .i64 a0_1, .int .i64 a0_2, .slice A0_3 l0_3.length c0_3]] rfl (by (try simp only [List.map_toArray, List.map_cons, List.map_nil]); first | done | rfl | (simp only [List.length_drop, List.length_take]; rfl)) ?_; (with_reducible refine (coppicerref_GrammarCheck.calls k a0_0 a0_1 a0_2 _ _ l0_3 t161 _ ?side1 ?side2 A3.out).mono ?_); (case side1 => repeat (first | exact (Kd.C_below HR0_3.out HB.out) | (with_reducible refine Kd.C_alloc ?_ _) | (with_reducible refine Kd.C_drewN ?_ _) | (with_reducible refine Kd.C_drew ?_))); (case side2 => exact HC0_3.out); rintro e w8 ⟨rfl, hb⟩; refine ⟨_, rfl, ?_⟩; have n0_ := Aside0.mk (blk_below (g := gb160) (o := .cells #[.int .i64 a0_0, .int .i64 a0_1, .int .i64 a0_2, .slice A0_3 l0_3.length c0_3] 51 (0, 0)) (by (with_reducible repeat (first | refine blk_drewN ?_ _ | refine blk_drew ?_ | refine blk_alloc ?_ _)); exact BK160.out) hb); have n1_ := Aside0.mk (below_step (by repeat (first | (with_reducible first | exact HB.out | apply below_alloc | apply pw_below_drewN | apply below_drew1 | refine below_set ?_ GE160.out) | exact HB.out)) hb); clear BK160; clear HB; have BK160 := n0_; have HB := n1_; clear n0_ n1_; (try clear hb); (try clear hb2); (try clear hk); (try clear hi); have hcz9_0 : w8.cell? ⟨gb160, 0, none⟩ = some (.int .i64 a0_0) := (blk_cell BK160.out 0).trans rfl; have hcz9_1 : w8.cell? ⟨gb160, 1, none⟩ = some (.int .i64 a0_1) := (blk_cell BK160.out 1).trans rfl; have hcz9_2 : w8.cell? ⟨gb160, 2, none⟩ = some (.int .i64 a0_2) := (blk_cell BK160.out 2).trans rfl; have hcz9_3 : w8.cell? ⟨gb160, 3, none⟩ = some (.slice A0_3 l0_3.length c0_3) := (blk_cell BK160.out 3).trans rfl; have hfz9_0 := blk_frozen BK160.out 0; have hfz9_1 := blk_frozen BK160.out 1; have hfz9_2 := blk_frozen BK160.out 2; have hfz9_3 := blk_frozen BK160.out 3) | (go_at_call 36; (with_reducible refine (coppicerref_WordCheck.calls k a0_0 _ _ l1 t162 _ ?side1 ?side2 A5.out).mono ?_); (case side1 => repeat (first | exact (Kd.C_below HR1.out HB.out) | (with_reducible refine Kd.C_alloc ?_ _) | (with_reducible refine Kd.C_drewN ?_ _) | (with_reducible refine Kd.C_drew ?_))); (case side2 => exact HC1.out); rintro e w' ⟨rfl, ⟨nd, rfl⟩⟩))
    go_ret
    exact ⟨by first | rfl | (simp [errW_none, errW_some] <;> rfl) | (simp [*, errW_none, errW_some] <;> rfl), by repeat (first | (with_reducible first | exact HB.out | apply below_alloc | apply pw_below_drewN | apply below_drew1 | refine below_set ?_ GE160.out) | exact HB.out)⟩
  · rw [if_neg c4] at H
    have c4b0 : (t161 == 0) = false := beq_eq_false_iff_ne.mpr c4
    have c4b1 : (t161 != 0) = true := bne_iff_ne.mpr c4
    obtain rfl := Option.some.inj H
    go_enter Try.func29, Try.ntmps29
    go_wp2_with (first | ((with_reducible refine gate_dst (N := 2) rfl ?_); refine box_event ?hg (N := 2) ?hd (cs := #[.int .i64 a0_0, .int .i64 a0_1, .int .i64 a0_2, .slice A0_3 l0_3.length c0_3]) (t := 51) ?hr ?_; (case hd => rfl); (case hg => rfl); (case hr => first | (go_simp; done) | (go_simp; rfl)); intro gb160 hg w10 hbox hb; have n0_ := Aside0.mk (below_step (by repeat (first | (with_reducible first | exact HB.out | apply below_alloc | apply pw_below_drewN | apply below_drew1) | exact HB.out)) hb); have n1_ := Aside0.mk (hbox); have n2_ := Aside0.mk ((by rw [hg]; exact (below_size (by repeat (first | (with_reducible first | exact HB.out | apply below_alloc | apply pw_below_drewN | apply below_drew1) | exact HB.out))) : w.heap.size ≤ gb160)); have n3_ := Aside0.mk ((by rw [hg]; exact (below_size (by repeat (first | (with_reducible first | exact HB.out | apply below_alloc | apply pw_below_drewN | apply below_drew1) | exact HB.out))) : w.heap.size ≤ gb160)); clear HB; have HB := n0_; have BK160 := n1_; have GW160 := n2_; have GE160 := n3_; clear n0_ n1_ n2_ n3_; clear hb hbox hg; have hcz11_0 : w10.cell? ⟨gb160, 0, none⟩ = some (.int .i64 a0_0) := (blk_cell BK160.out 0).trans rfl; have hcz11_1 : w10.cell? ⟨gb160, 1, none⟩ = some (.int .i64 a0_1) := (blk_cell BK160.out 1).trans rfl; have hcz11_2 : w10.cell? ⟨gb160, 2, none⟩ = some (.int .i64 a0_2) := (blk_cell BK160.out 2).trans rfl; have hcz11_3 : w10.cell? ⟨gb160, 3, none⟩ = some (.slice A0_3 l0_3.length c0_3) := (blk_cell BK160.out 3).trans rfl; have hfz11_0 := blk_frozen BK160.out 0; have hfz11_1 := blk_frozen BK160.out 1; have hfz11_2 := blk_frozen BK160.out 2; have hfz11_3 := blk_frozen BK160.out 3) | ((with_reducible refine gate_callee (f := 41) rfl ?_); refine goesL_ (some 6) rfl rfl Try.func41 (by kernel_rfl) rfl #[.agg #[.int .i64 a0_0, .int .i64 a0_1, .int .i64 a0_2, .slice A0_3 l0_3.length c0_3]] rfl (by (try simp only [List.map_toArray, List.map_cons, List.map_nil]); first | done | rfl | (simp only [List.length_drop, List.length_take]; rfl)) ?_; (with_reducible refine (coppicerref_GrammarCheck.calls k a0_0 a0_1 a0_2 _ _ l0_3 t161 _ ?side1 ?side2 A3.out).mono ?_); (case side1 => repeat (first | exact (Kd.C_below HR0_3.out HB.out) | (with_reducible refine Kd.C_alloc ?_ _) | (with_reducible refine Kd.C_drewN ?_ _) | (with_reducible refine Kd.C_drew ?_))); (case side2 => exact HC0_3.out); rintro e w12 ⟨rfl, hb⟩; refine ⟨_, rfl, ?_⟩; have n0_ := Aside0.mk (blk_below (g := gb160) (o := .cells #[.int .i64 a0_0, .int .i64 a0_1, .int .i64 a0_2, .slice A0_3 l0_3.length c0_3] 51 (0, 0)) (by (with_reducible repeat (first | refine blk_drewN ?_ _ | refine blk_drew ?_ | refine blk_alloc ?_ _)); exact BK160.out) hb); have n1_ := Aside0.mk (below_step (by repeat (first | (with_reducible first | exact HB.out | apply below_alloc | apply pw_below_drewN | apply below_drew1 | refine below_set ?_ GE160.out) | exact HB.out)) hb); clear BK160; clear HB; have BK160 := n0_; have HB := n1_; clear n0_ n1_; (try clear hb); (try clear hb2); (try clear hk); (try clear hi)))
    go_ret
    exact ⟨by first | rfl | (simp [errW_none, errW_some] <;> rfl) | (simp [*, errW_none, errW_some] <;> rfl), by repeat (first | (with_reducible first | exact HB.out | apply below_alloc | apply pw_below_drewN | apply below_drew1 | refine below_set ?_ GE160.out) | exact HB.out)⟩

-- NOT PRINTED: function 73 (table_New)

/-! ### table_times: function 115 -/
def table_times.f (a0 : Int) (a1 : Int) : Option (Int) := if a0 > 0 then (if a1 > (wrap64 (Int.tdiv 1099511627777 a0)) then (some 1099511627777) else (some (wrap64 (a0 * a1)))) else (some (wrap64 (a0 * a1)))
set_option maxHeartbeats 8000000 in
set_option maxRecDepth 100000 in
theorem table_times.calls (a0 : Int) (a1 : Int) (r : Int) (w : World) (h : table_times.f a0 a1 = some r) :
    Calls Try.prog 115 #[.int .i64 a0, .int .i64 a1] w fun e w' => e = .returned (.int .i64 r) ∧ Drawn0 w w' := by
  have H := h
  unfold table_times.f at H
  clear h
  by_cases c3 : a0 > 0
  · rw [if_pos c3] at H
    have c3b0 : decide (0 < a0) = true := decide_eq_true c3
    have c4 : ¬ a0 = 0 := by omega
    have c4b0 : (a0 == 0) = false := beq_eq_false_iff_ne.mpr c4
    have c4b1 : (a0 != 0) = true := bne_iff_ne.mpr c4
    clear c3
    by_cases c5 : a1 > (wrap64 (Int.tdiv 1099511627777 a0))
    · rw [if_pos c5] at H
      have c5b0 : decide ((wrap64 (Int.tdiv 1099511627777 a0)) < a1) = true := decide_eq_true c5
      clear c5
      obtain rfl := Option.some.inj H
      go_enter Try.func115, Try.ntmps115
      go_wp2
      go_ret
      exact ⟨by first | rfl | (simp; done) | (simp [*]; done), by repeat (first | exact Drawn0.refl _ | apply Drawn0.step)⟩
    · rw [if_neg c5] at H
      have c5b0 : decide ((wrap64 (Int.tdiv 1099511627777 a0)) < a1) = false := decide_eq_false c5
      clear c5
      obtain rfl := Option.some.inj H
      go_enter Try.func115, Try.ntmps115
      go_wp2
      go_ret
      exact ⟨by first | rfl | (simp; done) | (simp [*]; done), by repeat (first | exact Drawn0.refl _ | apply Drawn0.step)⟩
  · rw [if_neg c3] at H
    have c3b0 : decide (0 < a0) = false := decide_eq_false c3
    obtain rfl := Option.some.inj H
    clear c3 H
    go_enter Try.func115, Try.ntmps115
    go_wp2
    go_ret
    exact ⟨by first | rfl | (simp; done) | (simp [*]; done), by repeat (first | exact Drawn0.refl _ | apply Drawn0.step)⟩

-- NOT PRINTED: function 78 (table_Count_Rest)

-- NOT PRINTED: function 74 (table_Count_Sign)

/-! ### plain_plain: function 76 -/
def plain_any.cnt (k : Int) (l : List Int) : Nat := (l.filter fun x => decide (x ≥ k)).length
def plain_any.p (k : Int) (x : S126) : Bool := !((x.f1.length == 1 && plain_any.cnt k x.f1 == 0) || (x.f1.length == 2 && plain_any.cnt k x.f1 == 2))
def plain_any.f (l0 : List S126) (k : Int) : Option Bool := some (l0.any (plain_any.p k))
theorem plain_any.cnt_le (k : Int) (l : List Int) : plain_any.cnt k l ≤ l.length := List.length_filter_le _ _
theorem plain_any.cnt_succ (k : Int) (l : List Int) (i : Nat) (h : i < l.length) : plain_any.cnt k (l.take (i + 1)) = plain_any.cnt k (l.take i) + if l.getD i 0 ≥ k then 1 else 0 := by
  unfold plain_any.cnt
  rw [List.take_succ_eq_append_getElem h, List.filter_append, List.length_append, List.getD_eq_getElem?_getD, List.getElem?_eq_getElem h, Option.getD_some]
  by_cases c : l[i] ≥ k
  · simp [c]
  · simp [c]
set_option maxHeartbeats 2000000 in
theorem plain_any.lit (k a : Int) (A : Option Addr) (c : Nat) (l : List Int) (g : Nat) (w : World) (hr : Kd.C (Kd.int .i64) w A l.length l) (hk : w.cell? ⟨g, 0, none⟩ = some (.int .i64 k)) :
    Calls Try.prog 114 #[.agg #[.int .i64 a, .slice A l.length c], .pointer (some ⟨g, 0, none⟩)] w fun e w' => e = .returned (.bool (plain_any.p k ⟨a, l⟩)) ∧ Below w.heap.size w w' := by
  have hu0 := Try.underlying126
  have hu1 := Try.underlying51
  have HR := Aside0.mk (Kd.reads_of_C (enc := Value.int .i64) (d := (0 : Int)) (h1 := fun _ => rfl) hr)
  have HB0 := Aside0.mk hr.2.1
  clear hr
  go_enter Try.func114, Try.ntmps114
  go_wp2
  have hk1 := fun o => Lib.cell?_alloc_some o hk
  have hq1 : (w.alloc (Obj.cells #[.int .i64 a, .slice A l.length c] 126)).cell? ⟨w.heap.size, 1, none⟩ = some (.slice A l.length c) := by simp
  have BL := Aside0.mk (below_alloc (Below.refl w.heap.size w) (Obj.cells #[.int .i64 a, .slice A l.length c] 126))
  have hk2 := hk1 (Obj.cells #[.int .i64 a, .slice A l.length c] 126)
  have HC : Aside0 (∀ i, i < l.length → ∃ ad, A = some ad ∧ (w.alloc (Obj.cells #[.int .i64 a, .slice A l.length c] 126)).cell? (ad.add i) = some (.int .i64 (l.getD i 0))) := ⟨fun i hi => by
    obtain ⟨ad, e, h⟩ := HR.out.2.2 (by omega)
    exact ⟨ad, e, Lib.cell?_alloc_some _ (h i hi)⟩⟩
  clear hk1 HR hk
  generalize w.alloc (Obj.cells #[.int .i64 a, .slice A l.length c] 126) = w1 at *
  have hw : wrap64 0 = 0 := by unfold wrap64; omega
  go_loopg [4, 10] l.length (fun gg v4 v10 wr => ∃ kk : Nat, kk ≤ l.length ∧ l.length - kk ≤ gg ∧ v4 = .int .i64 (plain_any.cnt k (l.take kk) : Nat) ∧ v10 = .int .i64 kk ∧ wr = w1)
  case atStart => exact ⟨0, Nat.zero_le _, by omega, by simp [plain_any.cnt], rfl, rfl⟩
  case round =>
    obtain ⟨kk, hkk, hgg, rfl, rfl, rfl⟩ := hrel
    by_cases hlt : kk < l.length
    · have hltz : (kk : Int) < (l.length : Int) := by omega
      have hltb : decide ((kk : Int) < (l.length : Int)) = true := decide_eq_true hltz
      obtain ⟨ad, rfl, hx⟩ := HC.out kk hlt
      have hs := plain_any.cnt_succ k l kk hlt
      have hle := plain_any.cnt_le k (l.take kk)
      have hB := HB0.out
      rw [List.length_take] at hle
      have w1e : wrap64 ((kk : Int) + 1) = (kk : Int) + 1 := by unfold wrap64; omega
      have w2e : wrap64 ((plain_any.cnt k (l.take kk) : Int) + 1) = (plain_any.cnt k (l.take kk) : Int) + 1 := by unfold wrap64; omega
      have M := Aside0.mk (And.intro (show kk + 1 ≤ l.length by omega) (show l.length - (kk + 1) < gk by omega))
      have hr0 := eq_true (show (0 : Int) ≤ (kk : Int) by omega)
      have hr1 := eq_true hltz
      generalize l.getD kk 0 = x at *
      by_cases c : x ≥ k
      · have cb : decide (k ≤ x) = true := decide_eq_true c
        rw [if_pos c] at hs
        have HS := Aside0.mk hs
        clear hs c hB hle hltz hlt hkk hgg
        go_wp2
        go_roundg (l.length - (kk + 1))
        case measure => exact M.out.2
        case rel => exact ⟨kk + 1, M.out.1, Nat.le_refl _, by rw [HS.out]; first | rfl | (push_cast; rw [w2e]; done) | (push_cast; rfl), by first | rfl | (rw [w1e]; rfl) | (push_cast; rfl), rfl⟩
      · have cb : decide (k ≤ x) = false := decide_eq_false c
        rw [if_neg c] at hs
        have HS := Aside0.mk hs
        clear hs c hB hle hltz hlt hkk hgg
        go_wp2
        go_roundg (l.length - (kk + 1))
        case measure => exact M.out.2
        case rel => exact ⟨kk + 1, M.out.1, Nat.le_refl _, by rw [HS.out]; first | rfl | (simp; done), by first | rfl | (rw [w1e]; rfl) | (push_cast; rfl), rfl⟩
    · have hltz : ¬ (kk : Int) < (l.length : Int) := by omega
      have hltb : decide ((kk : Int) < (l.length : Int)) = false := decide_eq_false hltz
      obtain rfl : kk = l.length := by omega
      rw [List.take_length]
      have hp : plain_any.p k ⟨a, l⟩ = !((l.length == 1 && plain_any.cnt k l == 0) || (l.length == 2 && plain_any.cnt k l == 2)) := rfl
      generalize plain_any.cnt k l = n at *
      clear hltz hkk hgg HC HB0
      generalize l.length = m at *
      have HP := Aside0.mk hp
      clear hp
      by_cases c1 : m = 1
      · subst c1
        by_cases c0 : n = 0
        · subst c0
          go_wp2
          go_ret
          exact ⟨by rw [HP.out]; first | rfl | (simp; done), BL.out⟩
        · have f0 : ((n : Int) == 0) = false := by rw [beq_eq_false_iff_ne]; omega
          have F := Aside0.mk c0
          clear c0
          go_wp2
          go_ret
          exact ⟨by have := F.out; rw [HP.out]; first | rfl | (simp; done) | (simp [this]; done), BL.out⟩
      · have f1 : ((m : Int) == 1) = false := by rw [beq_eq_false_iff_ne]; omega
        by_cases c2 : m = 2
        · subst c2
          by_cases c3 : n = 2
          · subst c3
            clear c1 f1
            go_wp2
            go_ret
            exact ⟨by rw [HP.out]; first | rfl | (simp; done), BL.out⟩
          · have f0 : ((n : Int) == 2) = false := by rw [beq_eq_false_iff_ne]; omega
            have F := Aside0.mk c3
            clear c3 c1 f1
            go_wp2
            go_ret
            exact ⟨by have := F.out; rw [HP.out]; first | rfl | (simp; done) | (simp [this]; done), BL.out⟩
        · have f2 : ((m : Int) == 2) = false := by rw [beq_eq_false_iff_ne]; omega
          have F := Aside0.mk (And.intro c1 c2)
          clear c1 c2
          go_wp2
          go_ret
          exact ⟨by have := F.out; rw [HP.out]; first | rfl | (simp; done) | (simp [this]; done), BL.out⟩
set_option maxHeartbeats 2000000 in
theorem plain_any.idx (k : Int) (g : Nat) (A : Option Addr) (c : Nat) (l : List S126) (w : World) (hk : w.cell? ⟨g, 0, none⟩ = some (.int .i64 k)) (hr : Kd.C k126 w A l.length l) :
    Calls Try.prog 136 #[.slice A l.length c, .func (.func 114) #[] #[.pointer (some ⟨g, 0, none⟩)]] w fun e w' => (∃ r : Int, e = .returned (.int .i64 r) ∧ (0 ≤ r ↔ ∃ j, j < l.length ∧ plain_any.p k (rd_T126 l (j : Nat)) = true)) ∧ Below w.heap.size w w' := by
  have hu0 := Try.underlying126
  have hbig : l.length ≤ 9223372036854775807 := hr.2.1
  have eg : ∀ args w, (callFunc 114 args).run Try.prog w = .ok (.enter 114 args) w := enters_of Try.func114 (by kernel_rfl) rfl
  have HR := Aside0.mk hr
  clear hr
  generalize hn : l.length = n at hbig
  go_enter Try.func136, Try.ntmps136
  go_wp2
  go_loopg [5, 8] n (fun gg _ s8 wr => ∃ kk : Nat, kk ≤ n ∧ n - kk ≤ gg ∧ s8 = .int .i64 kk ∧ Aside0 (Below w.heap.size w wr) ∧ Aside0 (∀ j, j < kk → plain_any.p k (rd_T126 l (j : Nat)) = false))
  case atStart => exact ⟨0, Nat.zero_le _, by omega, rfl, ⟨by repeat (first | exact Below.refl _ _ | apply below_alloc | apply pw_below_drewN)⟩, ⟨fun j hj => absurd hj (Nat.not_lt_zero _)⟩⟩
  case round =>
    obtain ⟨kk, hkk, hg, rfl, HB, A0⟩ := hrel
    by_cases hlt : kk < n
    · have hltz : (kk : Int) < (n : Int) := by omega
      obtain ⟨ad, A1, c1, rfl, h0, h1, _, hI⟩ := at_T126 HR.out (kk : Int) (by omega) (by omega)
      have hk2 := pw_cell_below HB.out hk
      have hI2 := Kd.C_below hI HB.out
      rw [Int.toNat_natCast] at h0 h1
      replace h0 := pw_cell_below HB.out h0
      replace h1 := pw_cell_below HB.out h1
      have hcall0 := plain_any.lit k (rd_T126 l (kk : Nat)).f0 A1 c1 (rd_T126 l (kk : Nat)).f1 g wr hI2 hk2
      have hcall := fun q => plain_any.lit k (rd_T126 l (kk : Nat)).f0 A1 c1 (rd_T126 l (kk : Nat)).f1 g (wr.drewN q) (Kd.C_drewN hI2 q) hk2
      obtain ⟨b, off, lab⟩ := ad
      obtain ⟨pv, hpv⟩ : ∃ pv, plain_any.p k (rd_T126 l (kk : Nat)) = pv := ⟨_, rfl⟩
      have hpv2 : plain_any.p k ⟨(rd_T126 l (kk : Nat)).f0, (rd_T126 l (kk : Nat)).f1⟩ = pv := hpv
      simp only [hpv2] at hcall hcall0
      have hp9 := Aside0.mk hpv
      clear hpv hpv2
      clear hI hI2 hk2
      generalize (rd_T126 l (kk : Nat)).f1.length = m at h1 hcall hcall0
      generalize (rd_T126 l (kk : Nat)).f0 = y at h0 hcall hcall0
      cases pv with
      | true =>
        go_wp2_with (go_at_fn 114; (first | refine hcall0.mono ?_ | refine (hcall _).mono ?_); rintro e w2 ⟨rfl, HB2⟩)
        go_ret
        exact ⟨⟨(kk : Int), rfl, ⟨fun _ => ⟨kk, hlt, hp9.out⟩, fun _ => by omega⟩⟩, by repeat (first | exact HB.out.trans (HB2.mono (below_size HB.out)) | exact (pw_below_drewN HB.out _).trans (HB2.mono (by exact below_size HB.out)) | apply below_alloc | apply pw_below_drewN)⟩
      | false =>
        go_wp2_with (go_at_fn 114; (first | refine hcall0.mono ?_ | refine (hcall _).mono ?_); rintro e w2 ⟨rfl, HB2⟩)
        go_roundg (n - (kk + 1))
        case measure => omega
        case rel =>
          refine ⟨kk + 1, by omega, by omega, by go_num, ⟨?_⟩, ⟨fun j hj => ?_⟩⟩
          · repeat (first | exact HB.out.trans (HB2.mono (below_size HB.out)) | exact (pw_below_drewN HB.out _).trans (HB2.mono (by exact below_size HB.out)) | apply below_alloc | apply pw_below_drewN)
          · by_cases e : j = kk
            · subst e; exact hp9.out
            · exact A0.out j (by omega)
    · have hltz : ¬ (kk : Int) < (n : Int) := by omega
      have : kk = n := by omega
      subst this
      go_wp2
      go_ret
      refine ⟨⟨-1, rfl, ⟨fun h => absurd h (by decide), fun ⟨j, hj, hj2⟩ => ?_⟩⟩, by repeat (first | exact HB.out | apply below_alloc | apply pw_below_drewN)⟩
      rw [A0.out j (by omega)] at hj2
      exact absurd hj2 (by decide)
set_option maxHeartbeats 2000000 in
theorem plain_any.calls (A0 : Option Addr) (c0 : Nat) (l0 : List S126) (g : Nat) (cs : Array Value) (k : Int) (r : Bool) (w : World) (hr0 : Kd.C k126 w A0 l0.length l0) (hc0 : l0.length ≤ c0) (hB : w.heap[g]? = some (.cells cs 51 (0, 0))) (h1 : cs[0]? = some (.int .i64 k)) (h : plain_any.f l0 k = some r) :
    Calls Try.prog 113 #[.slice A0 l0.length c0, .func (.func 114) #[] #[.pointer (some ⟨g, 0, none⟩)]] w fun e w' => e = .returned (.bool r) ∧ Below w.heap.size w w' := by
  have hk : w.cell? ⟨g, 0, none⟩ = some (.int .i64 k) := (blk_cell hB 0).trans h1
  unfold plain_any.f at h
  have hr := Option.some.inj h
  have hb : r = true ↔ ∃ j, j < l0.length ∧ plain_any.p k (rd_T126 l0 (j : Nat)) = true := by
    have e : ∀ j : Nat, rd_T126 l0 (j : Nat) = l0.getD j z126 := fun j => by simp [rd_T126]
    rw [← hr, List.any_eq_true]
    constructor
    · rintro ⟨x, hx, hx2⟩
      obtain ⟨j, hj, rfl⟩ := List.getElem_of_mem hx
      refine ⟨j, hj, ?_⟩
      rwa [e, List.getD_eq_getElem?_getD, List.getElem?_eq_getElem hj]
    · rintro ⟨j, hj, hj2⟩
      rw [e, List.getD_eq_getElem?_getD, List.getElem?_eq_getElem hj] at hj2
      exact ⟨_, List.getElem_mem hj, hj2⟩
  have hI0 := plain_any.idx k g A0 c0 l0 w hk hr0
  have hI := fun q => plain_any.idx k g A0 c0 l0 (w.drewN q) hk (Kd.C_drewN hr0 q)
  have hsz : ∀ q, (w.drewN q).heap.size = w.heap.size := fun q => by first | rfl | simp
  clear hr0 hr h hB h1 hk
  go_enter Try.func113, Try.ntmps113
  go_wp2_with (go_at_call 136; (first | refine hI0.mono ?_ | refine (hI _).mono ?_); rintro e w' ⟨⟨r1, rfl, hr1⟩, HB2⟩)
  go_ret
  refine ⟨?_, by repeat (first | exact HB2 | exact (pw_below_drewN (Below.refl _ w) _).trans HB2 | apply below_alloc | apply pw_below_drewN)⟩
  have : decide (0 ≤ r1) = r := by
    rw [Bool.eq_iff_iff, decide_eq_true_iff, hr1, hb]
  first | rw [this] | (subst this; rfl) | (simp [← this, hr1]; done)

def plain_plain.f (a0_0 : Int) (a0_1 : Int) (a0_2 : Int) (l0_3 : List (S126)) : Option (Bool) := (plain_any.f l0_3 a0_0).bind fun t164 => (some (!t164))
set_option maxHeartbeats 8000000 in
set_option maxRecDepth 100000 in
theorem plain_plain.calls (a0_0 : Int) (a0_1 : Int) (a0_2 : Int) (A0_3 : Option Addr) (c0_3 : Nat) (l0_3 : List (S126)) (r : Bool) (w : World) (hr0_3 : Kd.C k126 w A0_3 l0_3.length l0_3) (hc0_3 : l0_3.length ≤ c0_3) (h : plain_plain.f a0_0 a0_1 a0_2 l0_3 = some r) :
    Calls Try.prog 76 #[.agg #[.int .i64 a0_0, .int .i64 a0_1, .int .i64 a0_2, .slice A0_3 l0_3.length c0_3]] w fun e w' => e = .returned (.bool r) ∧ Below w.heap.size w w' := by
  have hu51 := Try.underlying51
  have HR0_3 := Aside0.mk hr0_3
  have HC0_3 := Aside0.mk hc0_3
  clear hr0_3 hc0_3
  have HB := Aside0.mk (Below.refl w.heap.size w)
  have H : ((plain_any.f l0_3 a0_0).bind fun t164 => (some (!t164))) = some r := h
  clear h
  replace H := Option.bind_eq_some_iff.mp H
  obtain ⟨t164, A20, H⟩ := H
  replace H : (some (!t164)) = some r := H
  have A2 := Aside0.mk A20
  clear A20
  obtain rfl := Option.some.inj H
  go_enter Try.func76, Try.ntmps76
  go_wp2_with (first | ((with_reducible refine gate_dst (N := 1) rfl ?_); refine box_event ?hg (N := 1) ?hd (cs := #[.int .i64 a0_0, .int .i64 a0_1, .int .i64 a0_2, .slice A0_3 l0_3.length c0_3]) (t := 51) ?hr ?_; (case hd => rfl); (case hg => rfl); (case hr => first | (go_simp; done) | (go_simp; rfl)); intro gb163 hg w3 hbox hb; have n0_ := Aside0.mk (below_step (by repeat (first | (with_reducible first | exact HB.out | apply below_alloc | apply pw_below_drewN | apply below_drew1) | exact HB.out)) hb); have n1_ := Aside0.mk (hbox); have n2_ := Aside0.mk ((by rw [hg]; exact (below_size (by repeat (first | (with_reducible first | exact HB.out | apply below_alloc | apply pw_below_drewN | apply below_drew1) | exact HB.out))) : w.heap.size ≤ gb163)); have n3_ := Aside0.mk ((by rw [hg]; exact (below_size (by repeat (first | (with_reducible first | exact HB.out | apply below_alloc | apply pw_below_drewN | apply below_drew1) | exact HB.out))) : w.heap.size ≤ gb163)); clear HB; have HB := n0_; have BK163 := n1_; have GW163 := n2_; have GE163 := n3_; clear n0_ n1_ n2_ n3_; clear hb hbox hg; have hcz4_0 : w3.cell? ⟨gb163, 0, none⟩ = some (.int .i64 a0_0) := (blk_cell BK163.out 0).trans rfl; have hcz4_1 : w3.cell? ⟨gb163, 1, none⟩ = some (.int .i64 a0_1) := (blk_cell BK163.out 1).trans rfl; have hcz4_2 : w3.cell? ⟨gb163, 2, none⟩ = some (.int .i64 a0_2) := (blk_cell BK163.out 2).trans rfl; have hcz4_3 : w3.cell? ⟨gb163, 3, none⟩ = some (.slice A0_3 l0_3.length c0_3) := (blk_cell BK163.out 3).trans rfl; have hfz4_0 := blk_frozen BK163.out 0; have hfz4_1 := blk_frozen BK163.out 1; have hfz4_2 := blk_frozen BK163.out 2; have hfz4_3 := blk_frozen BK163.out 3) | ((with_reducible refine gate_callee (f := 113) rfl ?_); refine goesL_ (some 6) rfl rfl Try.func113 (by kernel_rfl) rfl #[.slice A0_3 l0_3.length c0_3, .func (.func 114) #[] #[.pointer (some ⟨gb163, 0, none⟩)]] rfl (by (try simp only [List.map_toArray, List.map_cons, List.map_nil]); first | done | rfl | (simp only [List.length_drop, List.length_take]; rfl)) ?_; (with_reducible refine (plain_any.calls _ _ l0_3 gb163 #[.int .i64 a0_0, .int .i64 a0_1, .int .i64 a0_2, .slice A0_3 l0_3.length c0_3] a0_0 t164 _ ?side1 ?side2 ?side3 ?side4 A2.out).mono ?_); (case side1 => repeat (first | exact (Kd.C_below HR0_3.out HB.out) | (with_reducible refine Kd.C_alloc ?_ _) | (with_reducible refine Kd.C_drewN ?_ _) | (with_reducible refine Kd.C_drew ?_))); (case side2 => exact HC0_3.out); (case side3 => exact by (with_reducible repeat (first | refine blk_drewN ?_ _ | refine blk_drew ?_ | refine blk_alloc ?_ _)); exact BK163.out); (case side4 => rfl); rintro e w5 ⟨rfl, hb⟩; refine ⟨_, rfl, ?_⟩; have n0_ := Aside0.mk (blk_below (g := gb163) (o := .cells #[.int .i64 a0_0, .int .i64 a0_1, .int .i64 a0_2, .slice A0_3 l0_3.length c0_3] 51 (0, 0)) (by (with_reducible repeat (first | refine blk_drewN ?_ _ | refine blk_drew ?_ | refine blk_alloc ?_ _)); exact BK163.out) hb); have n1_ := Aside0.mk (below_step (by repeat (first | (with_reducible first | exact HB.out | apply below_alloc | apply pw_below_drewN | apply below_drew1 | refine below_set ?_ GE163.out) | exact HB.out)) hb); clear BK163; clear HB; have BK163 := n0_; have HB := n1_; clear n0_ n1_; (try clear hb); (try clear hb2); (try clear hk); (try clear hi)))
  go_ret
  exact ⟨by first | rfl | (simp [errW_none, errW_some] <;> rfl) | (simp [*, errW_none, errW_some] <;> rfl), by repeat (first | (with_reducible first | exact HB.out | apply below_alloc | apply pw_below_drewN | apply below_drew1 | refine below_set ?_ GE163.out) | exact HB.out)⟩

end Go.Proofs.Ythgiiikjcfhgjaa.GU
