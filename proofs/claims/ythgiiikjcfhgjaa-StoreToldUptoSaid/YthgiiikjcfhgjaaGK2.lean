-- Written by ext.py, a program of this session.
import Derived.Test.YthgiiikjcfhgjaaGK0
namespace Go.Proofs.Ythgiiikjcfhgjaa.GK
open Go.RowKit Go.Proofs.YthgiiikjcfhgjaaW.PrintWords Go.Proofs.YthgiiikjcfhgjaaW.PrintLast Go.Proofs.YthgiiikjcfhgjaaW.PrintMore
attribute [local go_sem] max2_int min2_int max_two min_two max_three min_three max_four min_four cellIs_set   -- for this text's walks alone
set_option linter.unusedVariables false
set_option linter.unusedSimpArgs false

/-! ### thicket_order: function 134 -/
def thicket_below.l0 : Nat → List Int → List (List Int) → Int → Int → Option (List Int)
  | 0, _, _, _, _ => none
  | k + 1, x3, x7, x8, x9 => if x9 < x8 then (if 0 ≤ x9 then (if x9 < (x7.length : Int) then (if 0 ≤ (mn 1 ((rd_L1 x7 x9).length : Int)) then (if (mn 1 ((rd_L1 x7 x9).length : Int)) ≤ ((rd_L1 x7 x9).length : Int) then (if x3.length + ((rd_L1 x7 x9).drop ((mn 1 ((rd_L1 x7 x9).length : Int)) : Int).toNat).length < 17592186044416 then (thicket_below.l0 k (x3 ++ ((rd_L1 x7 x9).drop ((mn 1 ((rd_L1 x7 x9).length : Int)) : Int).toNat)) x7 x8 (wrap64 (x9 + 1))) else (none)) else (none)) else (none)) else (none)) else (none)) else (some x3)
def thicket_below.f (k : Nat) (a0_0 : Int) (a0_1 : Int) (a0_2 : Int) (l0_3 : List (List Int)) : Option (List Int) := thicket_below.l0 k ([] : List Int) l0_3 (l0_3.length : Int) 0
mutual
def tO.visit (sp : List S117) : Nat → Int → List Int → List Int → Option (Bool × List Int × List Int)
  | 0, _, _, _ => none
  | q + 1, i, st, l => if 0 ≤ i ∧ i < (st.length : Int) ∧ i < (sp.length : Int) then
      (if rd st i > 0 then some (rd st i == 2, st, l)
      else (thicket_below.f q (rd_T117 sp i).f0 (rd_T117 sp i).f1 (rd_T117 sp i).f2 (rd_T117 sp i).f3).bind fun js => (tO.kids sp q js 0 (st.set i.toNat 1) l).bind fun p =>
        if p.1 = true then (if p.2.2.length < 1000 ∧ i < (p.2.1.length : Int) then some (true, p.2.1.set i.toNat 2, p.2.2 ++ [i]) else none) else some p)
    else none
def tO.kids (sp : List S117) : Nat → List Int → Nat → List Int → List Int → Option (Bool × List Int × List Int)
  | 0, _, _, _, _ => none
  | q + 1, js, m, st, l => if m < js.length then
      (if rd js m < 0 ∨ rd js m ≥ (sp.length : Int) then some (false, st, l)
      else (tO.visit sp q (rd js m) st l).bind fun p => if p.1 = true then tO.kids sp q js (m + 1) p.2.1 p.2.2 else some p)
    else some (true, st, l)
end
def tO.all (sp : List S117) : Nat → Nat → List Int → List Int → Option (List Int × Bool)
  | 0, _, _, _ => none
  | q + 1, i, st, l => if i < sp.length then (tO.visit sp q i st l).bind fun p => if p.1 = true then tO.all sp q (i + 1) p.2.1 p.2.2 else some ([], false)
    else some (l, true)
def thicket_order.f (k : Nat) (l0_0 : List S117) (a0_1 : Int) : Option (List Int × Bool) := if (l0_0.length : Int) > 200 ∨ a0_1 < 0 ∨ a0_1 ≥ (l0_0.length : Int) then some ([], false) else tO.all l0_0 k 0 (List.replicate l0_0.length 0) []
theorem thicket_below.mono_l : ∀ k, (∀ y0 y1 y2 y3, LeO (thicket_below.l0 k y0 y1 y2 y3) (thicket_below.l0 (k + 1) y0 y1 y2 y3))
  | 0 => fun _ _ _ _ r h => by simp [thicket_below.l0] at h
  | k + 1 => by
    have ih0 := thicket_below.mono_l k
    · intro y0 y1 y2 y3
      unfold thicket_below.l0
      repeat' first
      | (with_reducible exact ih0 _ _ _ _)
      | (with_reducible exact LeO.refl _)
      | (with_reducible exact LeO.none _)
      | (with_reducible refine LeO.ite ?_ ?_)
      | (with_reducible refine LeO.bind ?_ (fun _ => ?_))
      | exact ih0 _ _ _ _
      | exact LeO.none _
      | refine LeO.ite ?_ ?_
      | refine LeO.bind ?_ (fun _ => ?_)
theorem thicket_below.mono : ∀ a0 a1 a2 a3 k, LeO (thicket_below.f k a0 a1 a2 a3) (thicket_below.f (k + 1) a0 a1 a2 a3) := by
  intro a0 a1 a2 a3 k
  have ih0 := thicket_below.mono_l k
  unfold thicket_below.f
  repeat' first
      | (with_reducible exact ih0 _ _ _ _)
      | (with_reducible exact LeO.refl _)
      | (with_reducible exact LeO.none _)
      | (with_reducible refine LeO.ite ?_ ?_)
      | (with_reducible refine LeO.bind ?_ (fun _ => ?_))
      | exact ih0 _ _ _ _
      | exact LeO.none _
      | refine LeO.ite ?_ ?_
      | refine LeO.bind ?_ (fun _ => ?_)
theorem tO.mono_all (sp : List S117) : ∀ q, (∀ i st l, LeO (tO.visit sp q i st l) (tO.visit sp (q + 1) i st l)) ∧ (∀ js m st l, LeO (tO.kids sp q js m st l) (tO.kids sp (q + 1) js m st l)) := by
  intro q
  induction q with
  | zero => exact ⟨fun i st l r h => (by rw [tO.visit] at h; cases h), fun js m st l r h => (by rw [tO.kids] at h; cases h)⟩
  | succ q ih =>
    obtain ⟨h1, h2⟩ := ih
    refine ⟨fun i st l => ?_, fun js m st l => ?_⟩
    · rw [tO.visit, tO.visit]
      refine LeO.ite (LeO.ite (LeO.refl _) (LeO.bind (thicket_below.mono _ _ _ _ _) (fun js => LeO.bind (h2 _ _ _ _) (fun p => LeO.refl _)))) (LeO.refl _)
    · rw [tO.kids, tO.kids]
      refine LeO.ite (LeO.ite (LeO.refl _) (LeO.bind (h1 _ _ _) (fun p => LeO.ite (h2 _ _ _ _) (LeO.refl _)))) (LeO.refl _)
theorem tO.all_mono (sp : List S117) : ∀ q i st l, LeO (tO.all sp q i st l) (tO.all sp (q + 1) i st l) := by
  intro q
  induction q with
  | zero => intro i st l r h; rw [tO.all] at h; cases h
  | succ q ih =>
    intro i st l
    rw [tO.all, tO.all]
    exact LeO.ite (LeO.bind ((tO.mono_all sp q).1 _ _ _) (fun p => LeO.ite (ih _ _ _) (LeO.refl _))) (LeO.refl _)
theorem thicket_order.mono : ∀ a0 a1 k, LeO (thicket_order.f k a0 a1) (thicket_order.f (k + 1) a0 a1) := by
  intro a0 a1 k
  unfold thicket_order.f
  exact LeO.ite (LeO.refl _) (tO.all_mono _ _ _ _ _)
set_option maxHeartbeats 8000000 in
set_option maxRecDepth 100000 in
theorem thicket_below.calls (k : Nat) (a0_0 : Int) (a0_1 : Int) (a0_2 : Int) (A0_3 : Option Addr) (c0_3 : Nat) (l0_3 : List (List Int)) (r : List Int) (w : World) (hr0_3 : Kd.C (Kd.slice 3 (Kd.int .i64)) w A0_3 l0_3.length l0_3) (hc0_3 : l0_3.length ≤ c0_3) (h : thicket_below.f k a0_0 a0_1 a0_2 l0_3 = some r) :
    Calls Try.prog 147 #[.agg #[.int .i64 a0_0, .int .i64 a0_1, .int .i64 a0_2, .slice A0_3 l0_3.length c0_3]] w fun e w' => ∃ v0_ : Value, e = .returned (v0_) ∧ Kd.R (Kd.int .i64) 3 w' w.heap.size (fun _ => True) v0_ r ∧ Below w.heap.size w w' := by
  have hu117 := Try.underlying117
  have HR0_3 := Aside0.mk hr0_3
  have HC0_3 := Aside0.mk hc0_3
  clear hr0_3 hc0_3
  have HB := Aside0.mk (Below.refl w.heap.size w)
  have H : (thicket_below.l0 k ([] : List Int) l0_3 (l0_3.length : Int) 0) = some r := h
  clear h
  have H' := Aside0.mk H
  clear H
  go_enter Try.func147, Try.ntmps147
  go_wp2_with (first | ((with_reducible refine gate_dst (N := 1) rfl ?_); refine box_event ?hg (N := 1) ?hd (cs := #[.int .i64 a0_0, .int .i64 a0_1, .int .i64 a0_2, .slice A0_3 l0_3.length c0_3]) (t := 117) ?hr ?_; (case hd => rfl); (case hg => rfl); (case hr => first | (go_simp; done) | (go_simp; rfl)); intro gb172 hg w2 hbox hb; have n0_ := Aside0.mk (below_step (by repeat (first | (with_reducible first | exact HB.out | apply below_alloc | apply pw_below_drewN | apply below_drew1) | exact HB.out)) hb); have n1_ := Aside0.mk (hbox); have n2_ := Aside0.mk ((by rw [hg]; exact (below_size (by repeat (first | (with_reducible first | exact HB.out | apply below_alloc | apply pw_below_drewN | apply below_drew1) | exact HB.out))) : w.heap.size ≤ gb172)); have n3_ := Aside0.mk ((by rw [hg]; exact (below_size (by repeat (first | (with_reducible first | exact HB.out | apply below_alloc | apply pw_below_drewN | apply below_drew1) | exact HB.out))) : w.heap.size ≤ gb172)); clear HB; have HB := n0_; have BK172 := n1_; have GW172 := n2_; have GE172 := n3_; clear n0_ n1_ n2_ n3_; clear hb hbox hg; have hcz3_0 : w2.cell? ⟨gb172, 0, none⟩ = some (.int .i64 a0_0) := (blk_cell BK172.out 0).trans rfl; have hcz3_1 : w2.cell? ⟨gb172, 1, none⟩ = some (.int .i64 a0_1) := (blk_cell BK172.out 1).trans rfl; have hcz3_2 : w2.cell? ⟨gb172, 2, none⟩ = some (.int .i64 a0_2) := (blk_cell BK172.out 2).trans rfl; have hcz3_3 : w2.cell? ⟨gb172, 3, none⟩ = some (.slice A0_3 l0_3.length c0_3) := (blk_cell BK172.out 3).trans rfl; have hfz3_0 := blk_frozen BK172.out 0; have hfz3_1 := blk_frozen BK172.out 1; have hfz3_2 := blk_frozen BK172.out 2; have hfz3_3 := blk_frozen BK172.out 3))
  go_loopg [3, 9] k (fun kq v3 v9 w' => ∃ (x3_1 : List Int) (x9_1 : Int), v9 = .int .i64 x9_1 ∧ Aside0 (thicket_below.l0 kq x3_1 l0_3 (l0_3.length : Int) x9_1 = some r) ∧ Aside0 (kq ≤ k) ∧ Aside0 (Kd.R (Kd.int .i64) 3 w' w.heap.size (fun _ => True) v3 x3_1) ∧ Aside0 (w'.heap[gb172]? = some (.cells #[.int .i64 a0_0, .int .i64 a0_1, .int .i64 a0_2, (.slice A0_3 l0_3.length c0_3)] 117 (0, 0))) ∧ Aside0 (Below w.heap.size w w'))
  case atStart => exact ⟨(([] : List Int)), (0), (by first | rfl | (simp; done) | (simp [*]; done)), H', ⟨Nat.le_refl _⟩, ⟨by first | exact Kd.R_nil _ _ _ _ _ | exact Kd.N_nil _ _ _ _ _ | exact Kd.V_nil _ _ _ _ _ | exact Kd.Q_nil _ _ _ _ _ | exact Kd.S_nil _ _ _ _ _⟩, ⟨by (with_reducible repeat (first | refine blk_drewN ?_ _ | refine blk_drew ?_ | refine blk_alloc ?_ _)); exact BK172.out⟩, ⟨by repeat (first | (with_reducible first | exact HB.out | apply below_alloc | apply pw_below_drewN | apply below_drew1 | refine below_set ?_ GE172.out) | exact HB.out)⟩⟩
  case round =>
    clear H'
    try clear c1
    try clear p2
    try clear hcz3_0
    try clear hcz3_1
    try clear hcz3_2
    try clear hcz3_3
    try clear hfz3_0
    try clear hfz3_1
    try clear hfz3_2
    try clear hfz3_3
    obtain ⟨x3_1, x9_1, rfl, HA, HK1, HO_3, BK172, HB⟩ := hrel
    cases gk with
    | zero => exact absurd HA.out (by simp [thicket_below.l0])
    | succ k1 =>
      have H := HA.out
      clear HA
      simp only [thicket_below.l0] at H
      by_cases c4 : x9_1 < (l0_3.length : Int)
      · rw [if_pos c4] at H
        have c4b0 : decide (x9_1 < (l0_3.length : Int)) = true := decide_eq_true c4
        clear c4
        by_cases c5 : 0 ≤ x9_1
        · rw [if_pos c5] at H
          have c5b0 : decide (0 ≤ x9_1) = true := decide_eq_true c5
          clear c5
          by_cases c6 : x9_1 < (l0_3.length : Int)
          · rw [if_pos c6] at H
            have c6b0 : decide (x9_1 < (l0_3.length : Int)) = true := decide_eq_true c6
            clear c6
            obtain ⟨ji7, hji7⟩ : ∃ j_ : Int, (mn 1 ((rd_L1 l0_3 x9_1).length : Int)) = j_ := ⟨_, rfl⟩
            replace H : (if 0 ≤ (ji7) then (if (ji7) ≤ ((rd_L1 l0_3 x9_1).length : Int) then (if x3_1.length + ((rd_L1 l0_3 x9_1).drop ((ji7) : Int).toNat).length < 17592186044416 then (thicket_below.l0 k1 (x3_1 ++ ((rd_L1 l0_3 x9_1).drop ((ji7) : Int).toNat)) l0_3 (l0_3.length : Int) (wrap64 (x9_1 + 1))) else (none)) else (none)) else (none)) = some r := by first | (rw [hji7] at H; exact H) | (simp only [hji7] at H ⊢; exact H)
            have hji7_ : (if ((rd_L1 l0_3 x9_1).length : Int) < 1 then ((rd_L1 l0_3 x9_1).length : Int) else 1) = ji7 := hji7
            by_cases c8 : 0 ≤ (ji7)
            · rw [if_pos c8] at H
              have c8b0 := eq_true c8
              have c8b1 : decide (0 ≤ (ji7)) = true := decide_eq_true c8
              clear c8
              by_cases c9 : (ji7) ≤ ((rd_L1 l0_3 x9_1).length : Int)
              · rw [if_pos c9] at H
                have c9b0 := eq_true c9
                have c9b1 : decide ((ji7) ≤ ((rd_L1 l0_3 x9_1).length : Int)) = true := decide_eq_true c9
                clear c9
                by_cases c10 : x3_1.length + ((rd_L1 l0_3 x9_1).drop ((ji7) : Int).toNat).length < 17592186044416
                · rw [if_pos c10] at H
                  have LMc10 := Aside0.mk c10
                  clear c10
                  obtain ⟨y175, hy175⟩ : ∃ y_ : List Int, y_ = (x3_1 ++ ((rd_L1 l0_3 x9_1).drop ((ji7) : Int).toNat)) := ⟨_, rfl⟩
                  replace H : (thicket_below.l0 k1 y175 l0_3 (l0_3.length : Int) (wrap64 (x9_1 + 1))) = some r := by first | (rw [hy175]; with_reducible exact H) | (have H2_ := (Option.bind_some _ _).symm.trans H; rw [hy175]; with_reducible exact H2_) | (have H2_ := (Option.bind_some _ _).symm.trans H; with_reducible exact H2_) | with_reducible exact H | (rw [hy175]; exact H) | exact H
                  have Ny175 := Aside0.mk hy175
                  clear hy175
                  have H' := Aside0.mk H
                  clear H
                  have p173 : 0 ≤ (x9_1 : Int) := of_decide_eq_true (by first | (with_reducible assumption) | assumption)
                  have q173 : x9_1 < (l0_3.length : Int) := of_decide_eq_true (by first | (with_reducible assumption) | assumption)
                  obtain ⟨ad173, A173_0, c173_0, e173, hx173_0, hl173_0, hi173_0⟩ := at_L1 HR0_3.out x9_1 p173 q173
                  cases e173
                  replace hx173_0 := (HB.out.cell (World.block_lt_of_cell? w _ hx173_0)).trans hx173_0
                  have HR173_0 := Aside0.mk hi173_0
                  have HC173_0 := Aside0.mk hl173_0
                  clear hi173_0 hl173_0
                  replace p173 := eq_true p173
                  replace q173 := eq_true q173
                  obtain ⟨i011, hi011, _, hsz11, _⟩ := info_parts info3
                  obtain ⟨A11, hcut11, hA11, hC11⟩ := print_drop_of (P := Try.prog) (Value.int .i64) 0 23 3 .i64 Try.underlying23 hi011 hsz11 A173_0 c173_0 (rd_L1 l0_3 x9_1) (ji7) (of_decide_eq_true (by first | (with_reducible assumption) | assumption)) (of_decide_eq_true (by first | (with_reducible assumption) | assumption)) HC173_0.out
                  have HR174 := Aside0.mk (Kd.C_of_reads (h1 := fun _ => rfl) (hA11 _ (Kd.reads_of_C HR173_0.out)))
                  have HC174 := Aside0.mk hC11
                  clear hA11 hC11 hi011 hsz11
                  go_wp2_with (first | ((with_reducible refine gate_builtin (b := .append) (xs := #[.tmp 13, .tmp 18]) rfl ?_); at_builtin; refine Kd.R_append_rows (Kd.int .i64) (w0 := w) w.heap.size rfl (.tmp 13) (.tmp 18) 23 3 (.int .i64 0) 8 rfl Try.underlying23 info3 rfl (by decide) (by omega) u3 x3_1 ((rd_L1 l0_3 x9_1).drop ((ji7) : Int).toNat) _ _ _ (fun _ => True) (fun _ => False) rfl rfl ?aO ?aR (fun _ _ h => h) (fun _ h => h.elim) ?aF ?aB ?aS ?aL ?_; (case aR => first | ((refine ext_len (show ((rd_L1 l0_3 x9_1).drop ((ji7) : Int).toNat).length = ((rd_L1 l0_3 x9_1).length - (ji7).toNat) from List.length_drop) ?_; repeat (first | exact (Kd.C_below HR174.out HB.out) | (with_reducible refine Kd.C_alloc ?_ _) | (with_reducible refine Kd.C_drewN ?_ _) | (with_reducible refine Kd.C_drew ?_))); done) | ((rw [← show ((rd_L1 l0_3 x9_1).drop ((ji7) : Int).toNat).length = ((rd_L1 l0_3 x9_1).length - (ji7).toNat) from List.length_drop]; repeat (first | exact (Kd.C_below HR174.out HB.out) | (with_reducible refine Kd.C_alloc ?_ _) | (with_reducible refine Kd.C_drewN ?_ _) | (with_reducible refine Kd.C_drew ?_))); done) | (repeat (first | exact (Kd.C_below HR174.out HB.out) | (with_reducible refine Kd.C_alloc ?_ _) | (with_reducible refine Kd.C_drewN ?_ _) | (with_reducible refine Kd.C_drew ?_)))); (case aB => exact (by repeat (first | (with_reducible first | exact HB.out | apply below_alloc | apply pw_below_drewN | apply below_drew1 | refine below_set ?_ GE172.out) | exact HB.out))); (case aF => exact (fun _ _ => trivial)); (case aO => exact (by (with_reducible repeat (first | apply Kd.R_alloc | apply Kd.R_drewN | apply Kd.R_drew)); exact HO_3.out)); (case aS => exact (below_size (by repeat (first | (with_reducible first | exact HB.out | apply below_alloc | apply pw_below_drewN | apply below_drew1 | refine below_set ?_ GE172.out) | exact HB.out)))); (case aL => have := LMc10.out; have hlx_ := (show ((rd_L1 l0_3 x9_1).drop ((ji7) : Int).toNat).length = ((rd_L1 l0_3 x9_1).length - (ji7).toNat) from List.length_drop); omega); intro v176 w12 ho hb hg hat; rw [← Ny175.out] at ho; have n0_ := Aside0.mk (blk_grown (g := gb172) (o := .cells #[.int .i64 a0_0, .int .i64 a0_1, .int .i64 a0_2, .slice (some ad173) l0_3.length c0_3] 117 (0, 0)) (by (with_reducible repeat (first | refine blk_drewN ?_ _ | refine blk_drew ?_ | refine blk_alloc ?_ _)); exact BK172.out) hg (Kd.R_ne HO_3.out BK172.out (by decide))); have n1_ := Aside0.mk (hb); have n2_ := Aside0.mk (ho); clear BK172; clear HB; clear HO_3; have BK172 := n0_; have HB := n1_; have HO177 := n2_; clear n0_ n1_ n2_; clear ho hb hg hat))
                  first | go_roundg k1 | ((simp only [← hji7]); go_roundg k1)
                  case measure => have := HK1.out; omega
                  case rel => exact ⟨(y175), (wrap64 (x9_1 + 1)), (by first | rfl | (simp; done) | (simp [*]; done)), (by first | exact H' | ((simp only [hji7]); exact H') | (have h_ := H'.out; simp only [← hji7] at h_ ⊢; exact ⟨h_⟩)), ⟨by have := HK1.out; omega⟩, ⟨by (with_reducible repeat (first | apply Kd.R_alloc | apply Kd.R_drewN | apply Kd.R_drew)); exact HO177.out⟩, ⟨by (with_reducible repeat (first | refine blk_drewN ?_ _ | refine blk_drew ?_ | refine blk_alloc ?_ _)); (first | exact BK172.out | (have h_ := BK172.out; simp only [← hji7] at h_; exact h_))⟩, ⟨by repeat (first | (with_reducible first | exact HB.out | apply below_alloc | apply pw_below_drewN | apply below_drew1 | refine below_set ?_ GE172.out) | exact HB.out)⟩⟩
                · rw [if_neg c10] at H
                  exact absurd H (by simp)
              · rw [if_neg c9] at H
                exact absurd H (by simp)
            · rw [if_neg c8] at H
              exact absurd H (by simp)
          · rw [if_neg c6] at H
            exact absurd H (by simp)
        · rw [if_neg c5] at H
          exact absurd H (by simp)
      · rw [if_neg c4] at H
        have c4b0 : decide (x9_1 < (l0_3.length : Int)) = false := decide_eq_false c4
        clear c4
        obtain rfl := Option.some.inj H
        go_wp2
        go_ret
        exact ⟨_, by first | rfl | (simp [errW_none, errW_some] <;> rfl) | (simp [*, errW_none, errW_some] <;> rfl), by (with_reducible repeat (first | apply Kd.R_alloc | apply Kd.R_drewN | apply Kd.R_drew)); exact HO_3.out, by repeat (first | (with_reducible first | exact HB.out | apply below_alloc | apply pw_below_drewN | apply below_drew1 | refine below_set ?_ GE172.out) | exact HB.out)⟩
def tO.ok (bs bt bv bl : Nat) (k : Nat) : Prop := k ≠ bs ∧ k ≠ bt ∧ k ≠ bv ∧ k ≠ bl
structure tO.Sv (w0 : World) (bs bt bv bl : Nat) (A0 : Option Addr) (n0 c0 : Nat) (root : Int) (vs vl : Value) (st l : List Int) (w : World) : Prop where
  below : Below w0.heap.size w0 w
  gs : w0.heap.size ≤ bs
  gt : w0.heap.size ≤ bt
  gv : w0.heap.size ≤ bv
  gl : w0.heap.size ≤ bl
  nd : bs ≠ bt ∧ bs ≠ bv ∧ bs ≠ bl ∧ bt ≠ bv ∧ bt ≠ bl ∧ bv ≠ bl
  xs : w.heap[bs]? = some (.cells #[vs] 23 (0, 0))
  xt : w.heap[bt]? = some (.cells #[.slice A0 n0 c0, .int .i64 root] 39 (0, 0))
  xv : w.heap[bv]? = some (.cells #[.func (.func 146) #[] #[.pointer (some ⟨bs, 0, none⟩), .pointer (some ⟨bt, 0, none⟩), .pointer (some ⟨bv, 0, none⟩), .pointer (some ⟨bl, 0, none⟩)]] 110 (0, 0))
  xl : w.heap[bl]? = some (.cells #[vl] 23 (0, 0))
  rs : Kd.R (Kd.int .i64) 3 w w0.heap.size (tO.ok bs bt bv bl) vs st
  rl : Kd.R (Kd.int .i64) 3 w w0.heap.size (tO.ok bs bt bv bl) vl l
  ap : ∀ k, vs.ownBlock = some k → some k ≠ vl.ownBlock
section
variable {w0 w w1 : World} {bs bt bv bl : Nat} {A0 : Option Addr} {n0 c0 : Nat} {root : Int} {vs vl v1 : Value} {st l l1 : List Int}
set_option maxRecDepth 100000 in
theorem tO.Sv.kept (h : tO.Sv w0 bs bt bv bl A0 n0 c0 root vs vl st l w) (hb : Below w.heap.size w w1) : tO.Sv w0 bs bt bv bl A0 n0 c0 root vs vl st l w1 :=
  ⟨below_step h.below hb, h.gs, h.gt, h.gv, h.gl, h.nd, blk_below h.xs hb, blk_below h.xt hb, blk_below h.xv hb, blk_below h.xl hb, Kd.R_below h.rs hb, Kd.R_below h.rl hb, h.ap⟩
set_option maxRecDepth 100000 in
/-- A store into the row of states. -/
theorem tO.Sv.put {g cap : Nat} (h : tO.Sv w0 bs bt bv bl A0 n0 c0 root vs vl st l w) (e : vs = .slice (some ⟨g, 0, none⟩) st.length cap) (i x : Int) : tO.Sv w0 bs bt bv bl A0 n0 c0 root vs vl (st.set i.toNat x) l (w.setCell ⟨g, i.toNat, none⟩ (.int .i64 x)) := by
  subst e
  have hg : tO.ok bs bt bv bl g := h.rs.1 g rfl
  have hgb : w0.heap.size ≤ g := Kd.R_base h.rs g rfl
  have hp := Kd.R_putn h.rs i x
  refine ⟨h.below.setCell hgb _, h.gs, h.gt, h.gv, h.gl, h.nd, blk_far h.xs (Ne.symm hg.1) _, blk_far h.xt (Ne.symm hg.2.1) _, blk_far h.xv (Ne.symm hg.2.2.1) _, blk_far h.xl (Ne.symm hg.2.2.2) _, ?_, ?_, h.ap⟩
  · exact hp
  · exact Kd.R_mono (Kd.R_far (Kd.R_far1 h.rl rfl (g := g) (h.ap g rfl)) (fun _ hk => hk.2) _) (fun _ hk => hk.1)
set_option maxRecDepth 100000 in
/-- The list's row grown: behind the append, and the store. -/
theorem tO.Sv.push (h : tO.Sv w0 bs bt bv bl A0 n0 c0 root vs vl st l w) (hg : w.grownBy w1 vl.ownBlock) (hb : Below w0.heap.size w0 w1) (hr : Kd.R (Kd.int .i64) 3 w1 w0.heap.size (tO.ok bs bt bv bl) v1 l1) (hat : v1.ownBlock = vl.ownBlock ∨ ∃ b, v1.ownBlock = some b ∧ w.heap.size ≤ b) : tO.Sv w0 bs bt bv bl A0 n0 c0 root vs v1 st l1 (w1.setCell ⟨bl, 0, none⟩ v1) := by
  have nn : ∀ b, ¬ tO.ok bs bt bv bl b → some b ≠ vl.ownBlock := fun b hb e => hb (h.rl.1 b e.symm)
  have nd := h.nd
  refine ⟨hb.setCell h.gl _, h.gs, h.gt, h.gv, h.gl, h.nd, blk_far (blk_grown h.xs hg (nn _ (fun k => k.1 rfl))) nd.2.2.1 _, blk_far (blk_grown h.xt hg (nn _ (fun k => k.2.1 rfl))) nd.2.2.2.2.1 _, blk_far (blk_grown h.xv hg (nn _ (fun k => k.2.2.1 rfl))) nd.2.2.2.2.2 _, blk_set (blk_grown h.xl hg (nn _ (fun k => k.2.2.2 rfl))) 0 _, Kd.R_far (Kd.R_grown2 h.rs rfl hg (fun k hk e => h.ap k e.symm hk.symm)) (fun _ hk => hk.2.2.2) _, Kd.R_far hr (fun _ hk => hk.2.2.2) _, fun k hk => ?_⟩
  rcases hat with e | ⟨b, e, hle⟩
  · rw [e]; exact h.ap k hk
  · rw [e]
    intro e2
    injection e2 with e2
    subst e2
    exact absurd (Kd.R_lt h.rs _ hk) (by omega)
end
def tO.St (w0 : World) (bs bt bv bl : Nat) (A0 : Option Addr) (n0 c0 : Nat) (root : Int) (st l : List Int) (w : World) : Prop := ∃ vs vl, tO.Sv w0 bs bt bv bl A0 n0 c0 root vs vl st l w
set_option maxRecDepth 100000 in
theorem tO.info : (Try.prog.info? 3).map (fun i => (i.zero, i.size, i.bytes)) = some (some (.int .i64 0), 1, 8) := by kernel_rfl
/-- What a visit leaves as it was. -/
structure tO.To (bl : Nat) (vs vl : Value) (w : World) (vl' : Value) (w' : World) : Prop where
  own : vl'.ownBlock = vl.ownBlock ∨ ∃ b, vl'.ownBlock = some b ∧ w.heap.size ≤ b
  size : w.heap.size ≤ w'.heap.size
  fr : ∀ k, k < w.heap.size → k ≠ bl → some k ≠ vs.ownBlock → some k ≠ vl.ownBlock → w'.heap[k]? = w.heap[k]?
set_option maxRecDepth 100000 in
theorem tO.To.refl (bl : Nat) (vs vl : Value) (w : World) : tO.To bl vs vl w vl w := ⟨.inl rfl, Nat.le_refl _, fun _ _ _ _ _ => rfl⟩
set_option maxRecDepth 100000 in
theorem tO.To.trans {bl : Nat} {vs vl vl1 vl2 : Value} {w w1 w2 : World} (h : tO.To bl vs vl w vl1 w1) (k : tO.To bl vs vl1 w1 vl2 w2) : tO.To bl vs vl w vl2 w2 := by
  refine ⟨?_, Nat.le_trans h.size k.size, fun b hb h1 h2 h3 => ?_⟩
  · rcases k.own with e | ⟨b, e, hb⟩
    · rw [e]; exact h.own
    · exact .inr ⟨b, e, Nat.le_trans h.size hb⟩
  · have hs := h.size
    have h3' : some b ≠ vl1.ownBlock := by
      rcases h.own with e | ⟨c, e, hc⟩
      · rw [e]; exact h3
      · rw [e]; intro e2; injection e2 with e2; omega
    rw [k.fr b (by omega) h1 h2 h3', h.fr b hb h1 h2 h3]
set_option maxRecDepth 100000 in
theorem tO.To.below {bl : Nat} {vs vl : Value} {w w1 : World} (h : Below w.heap.size w w1) : tO.To bl vs vl w vl w1 := ⟨.inl rfl, h.size, fun k hk _ _ _ => h.block k hk⟩
set_option maxRecDepth 100000 in
theorem tO.To.put {bl g i n cap : Nat} {vl u : Value} {w : World} : tO.To bl (.slice (some ⟨g, 0, none⟩) n cap) vl w vl (w.setCell ⟨g, i, none⟩ u) :=
  ⟨.inl rfl, Nat.le_of_eq (by simp), fun k hk _ h2 _ => Below.heap_setCell w _ u k (fun e => h2 (by rw [e]; rfl))⟩
set_option maxRecDepth 100000 in
theorem tO.To.push {bl : Nat} {vs vl v1 u : Value} {w w1 : World} (hg : w.grownBy w1 vl.ownBlock) (hat : v1.ownBlock = vl.ownBlock ∨ ∃ b, v1.ownBlock = some b ∧ w.heap.size ≤ b) : tO.To bl vs vl w v1 (w1.setCell ⟨bl, 0, none⟩ u) :=
  ⟨hat, by simpa using hg.size, fun k hk h1 _ h3 => (Below.heap_setCell w1 _ u k h1).trans (hg.block k hk h3)⟩
set_option maxRecDepth 100000 in
/-- A row that is none of these. -/
theorem tO.To.row {bl B : Nat} {vs vl vl' v : Value} {js : List Int} {w w' : World} (h : tO.To bl vs vl w vl' w') (hR : Kd.R (Kd.int .i64) 3 w B (fun k => B ≤ k) v js) (h1 : bl < B) (h2 : ∀ k, vs.ownBlock = some k → k < B) (h3 : ∀ k, vl.ownBlock = some k → k < B) : Kd.R (Kd.int .i64) 3 w' B (fun k => B ≤ k) v js :=
  Kd.R_step hR (fun k hk hl => h.fr k hl (by omega) (fun e => by have := h2 k e.symm; omega) (fun e => by have := h3 k e.symm; omega))
set_option maxRecDepth 100000 in
set_option maxHeartbeats 4000000 in
theorem tO.visit_calls {w0 : World} {bs bt bv bl : Nat} {A0 : Option Addr} {c0 : Nat} {root : Int} {sp : List S117} (hr0 : Kd.C k117 w0 A0 sp.length sp) (hc0 : sp.length ≤ c0) (hsp : sp.length ≤ 200) : ∀ (Q q : Nat), q ≤ Q → ∀ (i : Int) (vs vl : Value) (st l : List Int) (w : World) (b : Bool) (st' l' : List Int), tO.Sv w0 bs bt bv bl A0 sp.length c0 root vs vl st l w → tO.visit sp q i st l = some (b, st', l') →
    Calls Try.prog 146 #[.int .i64 i, .pointer (some ⟨bs, 0, none⟩), .pointer (some ⟨bt, 0, none⟩), .pointer (some ⟨bv, 0, none⟩), .pointer (some ⟨bl, 0, none⟩)] w fun e w' => e = .returned (.bool b) ∧ ∃ vl', tO.Sv w0 bs bt bv bl A0 sp.length c0 root vs vl' st' l' w' ∧ tO.To bl vs vl w vl' w' := by
  have HR0 := Aside0.mk hr0
  have HC0 := Aside0.mk hc0
  have hu39 := Try.underlying39
  have hu117 := Try.underlying117
  intro Q
  induction Q with
  | zero =>
    intro q hq i vs vl st l w b st' l' hS h
    obtain rfl : q = 0 := by omega
    rw [tO.visit] at h; cases h
  | succ Q ih =>
    intro q hq i vs vl st l w b st' l' hS h
    cases q with
    | zero => rw [tO.visit] at h; cases h
    | succ q =>
    have IH := Aside0.mk ih
    have HQ := Aside0.mk hq
    clear ih hq
    rw [tO.visit] at h
    by_cases c : 0 ≤ i ∧ i < (st.length : Int) ∧ i < (sp.length : Int)
    · rw [if_pos c] at h
      obtain ⟨g, cap, rfl, -⟩ := Kd.R_form hS.rs (by omega)
      obtain ⟨hx, hf⟩ := Kd.R_celln 0 hS.rs i c.1 c.2.1
      change w.cell? _ = some (.int .i64 (rd st i)) at hx
      have q1 := (blk_cell hS.xs 0).trans rfl
      have q2 := (blk_cell hS.xt 0).trans rfl
      have p0 : (0 ≤ i) = True := eq_true c.1
      have p1 : (i < (st.length : Int)) = True := eq_true c.2.1
      have p2 : (i < (sp.length : Int)) = True := eq_true c.2.2
      have HS := Aside0.mk hS
      have C := Aside0.mk c
      clear hS c
      by_cases c1 : rd st i > 0
      · rw [if_pos c1] at h
        have h := Option.some.inj h
        injection h with h1 h2
        injection h2 with h2 h3
        subst h1; subst h2; subst h3
        generalize rd st i = x at c1 hx ⊢
        have c1t : (0 < x) = True := eq_true c1
        clear c1
        go_enter Try.func146, Try.ntmps146
        go_wp2
        go_ret
        exact ⟨rfl, _, HS.out, tO.To.refl _ _ _ _⟩
      · rw [if_neg c1] at h
        have c1t : (0 < rd st i) = False := eq_false c1
        generalize rd st i = x at c1t hx
        cases hj : thicket_below.f q (rd_T117 sp i).f0 (rd_T117 sp i).f1 (rd_T117 sp i).f2 (rd_T117 sp i).f3 with
        | none => rw [hj] at h; cases h
        | some js =>
        rw [hj] at h
        simp only [Option.bind_some] at h
        cases hk : tO.kids sp q js 0 (st.set i.toNat 1) l with
        | none => rw [hk] at h; cases h
        | some p =>
        obtain ⟨b1, st1, l1⟩ := p
        rw [hk] at h
        simp only [Option.bind_some] at h
        have HS1 := Aside0.mk (HS.out.put rfl i 1)
        have TO1 := Aside0.mk (tO.To.put (bl := bl) (g := g) (i := i.toNat) (n := st.length) (cap := cap) (vl := vl) (u := .int .i64 1) (w := w))
        have q3 := (blk_cell HS1.out.xt 0).trans rfl
        obtain ⟨ad, A3, c3, rfl, y0, y1, y2, y3, lc3, CA⟩ := at_T117 HR0.out i C.out.1 C.out.2.2
        replace y0 := pw_cell_below HS1.out.below y0
        replace y1 := pw_cell_below HS1.out.below y1
        replace y2 := pw_cell_below HS1.out.below y2
        replace y3 := pw_cell_below HS1.out.below y3
        replace CA := Kd.C_below CA HS1.out.below
        generalize (rd_T117 sp i).f0 = f0 at hj y0
        generalize (rd_T117 sp i).f1 = f1 at hj y1
        generalize (rd_T117 sp i).f2 = f2 at hj y2
        generalize (rd_T117 sp i).f3 = f3 at hj y3 lc3 CA
        have HJ := Aside0.mk hj
        have HK := Aside0.mk hk
        have H := Aside0.mk h
        have CA' := Aside0.mk CA
        have LC := Aside0.mk lc3
        clear hj hk h CA lc3 c1
        go_enter Try.func146, Try.ntmps146
        go_wp2_with (first | (go_at_call 147; refine (thicket_below.calls q f0 f1 f2 A3 c3 f3 js _ CA'.out LC.out HJ.out).mono ?_; rintro e w2 ⟨vj, rfl, hrj, hbj⟩; (obtain ⟨AJ, cJ, rfl⟩ := Kd.R_slice hrj); have RJ := Aside0.mk (Kd.R_mono (Kd.R_bound hrj) (ok' := fun k => (w.setCell ⟨g, i.toNat, none⟩ (.int .i64 1)).heap.size ≤ k) (fun k hk => hk.2.1)); have HS2 := Aside0.mk (HS1.out.kept hbj); have TO2 := Aside0.mk (TO1.out.trans (tO.To.below hbj)); clear hrj hbj))
        generalize hB : (w.setCell ⟨g, i.toNat, none⟩ (.int .i64 1)).heap.size = B at RJ
        have hB' : B = w.heap.size := by rw [← hB]; simp
        have hjm : js.length ≤ 9223372036854775807 := (Kd.R_reads' RJ.out).2.2.2.1
        have HB := Aside0.mk hB'
        clear hB hB' hx hf q1 q2 q3 y0 y1 y2 y3
        generalize hvs : (Value.slice (some ⟨g, 0, none⟩) st.length cap) = vs at HS HS1 HS2 TO1 TO2 ⊢
        have HVS := Aside0.mk hvs
        clear hvs
        go_loopg [29] q (fun gg s29 wr => ∃ (m : Nat) (st2 l2 : List Int) (vl2 : Value), s29 = .int .i64 m ∧ m ≤ js.length ∧ gg ≤ q ∧ Aside0 (tO.Sv w0 bs bt bv bl (some ad) sp.length c0 root vs vl2 st2 l2 wr) ∧ Aside0 (tO.To bl vs vl w2 vl2 wr) ∧ Aside0 (tO.kids sp gg js m st2 l2 = some (b1, st1, l1)))
        case atStart => exact ⟨0, _, _, _, rfl, Nat.zero_le _, Nat.le_refl _, HS2, Aside0.mk (tO.To.refl _ _ _ _), HK⟩
        case round =>
          obtain ⟨m, st2, l2, vl2, rfl, hm, hgq, HSr, TOr, HKr⟩ := hrel
          cases gk with
          | zero => exact absurd HKr.out (by rw [tO.kids]; exact fun e => by cases e)
          | succ r =>
          have hk := HKr.out
          rw [tO.kids] at hk
          clear HKr
          by_cases cm : m < js.length
          · rw [if_pos cm] at hk
            have cmz : ((m : Int) < (js.length : Int)) = True := eq_true (by omega)
            have cm0 : (0 ≤ (m : Int)) = True := eq_true (by omega)
            have em : wrap64 ((m : Int) + 1) = (m : Int) + 1 := by unfold wrap64; omega
            have RJr := TOr.out.row RJ.out (by have := blk_lt HS.out.xl; have := HB.out; omega) (fun k hk => by have := Kd.R_lt HS.out.rs k hk; have := HB.out; omega) (fun k hk => by have := Kd.R_lt HS.out.rl k hk; have := HB.out; omega)
            obtain ⟨aj, eJ, hcx⟩ := Kd.at_int (Kd.R_reads' RJr).2.2 (m : Int) (by omega) (by omega)
            subst eJ
            rw [Int.toNat_natCast] at hcx
            generalize hx : rd js (m : Nat) = x at hk hcx
            have q2 := (blk_cell HSr.out.xt 0).trans rfl
            have q3 := (blk_cell HSr.out.xv 0).trans rfl
            clear hx RJr
            by_cases cx : x < 0
            · rw [if_pos (.inl cx)] at hk
              have hk := Option.some.inj hk
              injection hk with k1 k2
              injection k2 with k2 k3
              subst k1; subst k2; subst k3
              have h := H.out
              rw [if_neg (by simp)] at h
              have h := Option.some.inj h
              injection h with k1 k2
              injection k2 with k2 k3
              subst k1; subst k2; subst k3
              have cxt : (x < 0) = True := eq_true cx
              clear cx
              go_wp2
              go_ret
              have hvs := HVS.out
              subst hvs
              exact ⟨rfl, _, HSr.out, TO2.out.trans TOr.out⟩
            · have cxt : (x < 0) = False := eq_false cx
              by_cases cy : x ≥ (sp.length : Int)
              · rw [if_pos (.inr cy)] at hk
                have hk := Option.some.inj hk
                injection hk with k1 k2
                injection k2 with k2 k3
                subst k1; subst k2; subst k3
                have h := H.out
                rw [if_neg (by simp)] at h
                have h := Option.some.inj h
                injection h with k1 k2
                injection k2 with k2 k3
                subst k1; subst k2; subst k3
                have cyt : ((sp.length : Int) ≤ x) = True := eq_true cy
                clear cx cy
                go_wp2
                go_ret
                have hvs := HVS.out
                subst hvs
                exact ⟨rfl, _, HSr.out, TO2.out.trans TOr.out⟩
              · have cyt : ((sp.length : Int) ≤ x) = False := eq_false (by omega)
                rw [if_neg (by omega)] at hk
                cases hv : tO.visit sp r x st2 l2 with
                | none => rw [hv] at hk; cases hk
                | some p =>
                obtain ⟨b2, st3, l3⟩ := p
                rw [hv] at hk
                simp only [Option.bind_some] at hk
                have HV := Aside0.mk hv
                have HQr := Aside0.mk (show r ≤ Q by have := HQ.out; omega)
                clear cx cy hv
                cases b2 with
                | true =>
                  rw [if_pos rfl] at hk
                  have HK2 := Aside0.mk hk
                  clear hk
                  go_wp2_with (first | (go_at_fn 146; refine (IH.out r HQr.out x _ _ _ _ _ true st3 l3 HSr.out HV.out).mono ?_; rintro e w5 ⟨rfl, vl5, hs5, to5⟩; have HS5 := Aside0.mk hs5; have TO5 := Aside0.mk (TOr.out.trans to5); clear hs5 to5) | (refine (IH.out r HQr.out x _ _ _ _ _ true st3 l3 HSr.out HV.out).mono ?_; rintro e w5 ⟨rfl, vl5, hs5, to5⟩; have HS5 := Aside0.mk hs5; have TO5 := Aside0.mk (TOr.out.trans to5); clear hs5 to5))
                  go_roundg r
                  case measure => omega
                  case rel => exact ⟨m + 1, _, _, _, by go_num, by omega, by omega, HS5, TO5, HK2⟩
                | false =>
                  rw [if_neg (by simp)] at hk
                  have hk := Option.some.inj hk
                  injection hk with k1 k2
                  injection k2 with k2 k3
                  subst k1; subst k2; subst k3
                  have h := H.out
                  rw [if_neg (by simp)] at h
                  have h := Option.some.inj h
                  injection h with k1 k2
                  injection k2 with k2 k3
                  subst k1; subst k2; subst k3
                  go_wp2_with (first | (go_at_fn 146; refine (IH.out r HQr.out x _ _ _ _ _ false st3 l3 HSr.out HV.out).mono ?_; rintro e w5 ⟨rfl, vl5, hs5, to5⟩; have HS5 := Aside0.mk hs5; have TO5 := Aside0.mk (TOr.out.trans to5); clear hs5 to5) | (refine (IH.out r HQr.out x _ _ _ _ _ false st3 l3 HSr.out HV.out).mono ?_; rintro e w5 ⟨rfl, vl5, hs5, to5⟩; have HS5 := Aside0.mk hs5; have TO5 := Aside0.mk (TOr.out.trans to5); clear hs5 to5))
                  go_ret
                  have hvs := HVS.out
                  subst hvs
                  exact ⟨rfl, _, HS5.out, TO2.out.trans TO5.out⟩
          · rw [if_neg cm] at hk
            have hk := Option.some.inj hk
            injection hk with k1 k2
            injection k2 with k2 k3
            subst k1; subst k2; subst k3
            have cmz : ((m : Int) < (js.length : Int)) = False := eq_false (by omega)
            have h := H.out
            rw [if_pos rfl] at h
            by_cases ch : l2.length < 1000 ∧ i < (st2.length : Int)
            · rw [if_pos ch] at h
              have h := Option.some.inj h
              injection h with k1 k2
              injection k2 with k2 k3
              subst k1; subst k2; subst k3
              have hvs := HVS.out
              have e2 : st.length = st2.length := (Kd.R_reads' (hvs ▸ HSr.out.rs)).1
              subst hvs
              obtain ⟨hx2, hf2⟩ := Kd.R_celln 0 HSr.out.rs i C.out.1 (by have := C.out.2.1; exact this)
              have HS6 := Aside0.mk (HSr.out.put (by rw [e2]) i 2)
              have TO6 := Aside0.mk (TOr.out.trans (tO.To.put (bl := bl) (g := g) (i := i.toNat) (n := st.length) (cap := cap) (vl := vl2) (u := .int .i64 2) (w := wr)))
              have CH := Aside0.mk ch
              have q1 := (blk_cell HSr.out.xs 0).trans rfl
              have q4 := (blk_cell HS6.out.xl 0).trans rfl
              obtain ⟨AL, cL, rfl⟩ := Kd.R_slice HSr.out.rl
              clear ch e2
              go_wp2_with (first
                | ((with_reducible refine gate_builtin (b := .append) (xs := #[.tmp 52, .tmp 54]) rfl ?_); at_builtin; go_loud (refine Kd.R_append (Kd.int .i64) (w0 := w0) w0.heap.size rfl (.tmp 52) (.tmp 54) 23 3 (.int .i64 0) 8 rfl Try.underlying23 tO.info rfl (by decide) (by omega) (.slice AL l2.length cL) l2 i _ (tO.ok bs bt bv bl) (fun _ => False) rfl ?xx ?xm ?xo ?xf HS6.out.rl HS6.out.below (below_size HS6.out.below) ?xl ?_); (case xx => (show Value.slice (some ⟨wr.heap.size, 0, none⟩) 1 1 = _; simp)); (case xm => rfl); (case xo => exact fun k hk => hk.elim); (case xf => exact fun k hk => ⟨by have := blk_lt HS6.out.xs; omega, by have := blk_lt HS6.out.xt; omega, by have := blk_lt HS6.out.xv; omega, by have := blk_lt HS6.out.xl; omega⟩); (case xl => (have := CH.out; omega)); intro v1 w1' hr1 hb1 hg1 hat1; have HS7 := Aside0.mk (HS6.out.push hg1 hb1 hr1 hat1); have TO7 := Aside0.mk (TO6.out.trans (tO.To.push (u := v1) hg1 hat1)); have hq3 := blk_grown HS6.out.xl hg1 (fun e => (HS6.out.rl.1 bl e.symm).2.2.2 rfl); (obtain ⟨B1, c1', ev⟩ := Kd.R_slice hr1); (generalize (l2 ++ [i]).length = ln at ev); subst ev; have hq4 := blk_frozen hq3; have hq5 := (blk_cell hq3 0).trans rfl; clear hr1 hb1 hg1 hat1 hq3))
              go_ret
              exact ⟨rfl, _, HS7.out, TO2.out.trans TO7.out⟩
            · rw [if_neg ch] at h; cases h
    · rw [if_neg c] at h; cases h

set_option maxHeartbeats 8000000 in
set_option maxRecDepth 100000 in
theorem thicket_order.calls (k : Nat) (A0_0 : Option Addr) (c0_0 : Nat) (l0_0 : List (S117)) (a0_1 : Int) (r1 : List Int) (r2 : Bool) (w : World) (hr0_0 : Kd.C k117 w A0_0 l0_0.length l0_0) (hc0_0 : l0_0.length ≤ c0_0) (h : thicket_order.f k l0_0 a0_1 = some (r1, r2)) :
    Calls Try.prog 134 #[.agg #[.slice A0_0 l0_0.length c0_0, .int .i64 a0_1]] w fun e w' => ∃ v0_ : Value, e = .returned (.tuple #[v0_, .bool r2]) ∧ Kd.R (Kd.int .i64) 3 w' w.heap.size (fun _ => True) v0_ r1 ∧ Below w.heap.size w w' := by
  have hu39 := Try.underlying39
  have hu117 := Try.underlying117
  have HR0 := Aside0.mk hr0_0
  have HC0 := Aside0.mk hc0_0
  have BA := Aside0.mk (below_alloc (Below.refl w.heap.size w) (.cells #[.slice A0_0 l0_0.length c0_0, .int .i64 a0_1] 39))
  have q0 : (w.alloc (.cells #[.slice A0_0 l0_0.length c0_0, .int .i64 a0_1] 39)).cell? ⟨w.heap.size, 0, none⟩ = some (.slice A0_0 l0_0.length c0_0) := (blk_cell (heap_alloc_new w _) 0).trans rfl
  have q1 : (w.alloc (.cells #[.slice A0_0 l0_0.length c0_0, .int .i64 a0_1] 39)).cell? ⟨w.heap.size, 1, none⟩ = some (.int .i64 a0_1) := (blk_cell (heap_alloc_new w _) 1).trans rfl
  unfold thicket_order.f at h
  clear hr0_0 hc0_0
  by_cases ce : (l0_0.length : Int) > 200 ∨ a0_1 < 0 ∨ a0_1 ≥ (l0_0.length : Int)
  · rw [if_pos ce] at h
    have h := Option.some.inj h
    injection h with h1 h2
    subst h1; subst h2
    by_cases c1 : (200 < (l0_0.length : Int))
    · have c1t := eq_true c1
      clear ce c1
      go_enter Try.func134, Try.ntmps134
      go_wp2
      go_ret2
      exact ⟨_, rfl, Kd.R_nil _ _ _ _ _, BA.out⟩
    · have c1t := eq_false c1
      by_cases c2 : a0_1 < 0
      · have c2t := eq_true c2
        clear ce c1 c2
        go_enter Try.func134, Try.ntmps134
        go_wp2
        go_ret2
        exact ⟨_, rfl, Kd.R_nil _ _ _ _ _, BA.out⟩
      · have c2t := eq_false c2
        have c3t : ((l0_0.length : Int) ≤ a0_1) = True := eq_true (by omega)
        clear ce c1 c2
        go_enter Try.func134, Try.ntmps134
        go_wp2
        go_ret2
        exact ⟨_, rfl, Kd.R_nil _ _ _ _ _, BA.out⟩
  · rw [if_neg ce] at h
    have c1t : (200 < (l0_0.length : Int)) = False := eq_false (by omega)
    have c2t : (a0_1 < 0) = False := eq_false (by omega)
    have c3t : ((l0_0.length : Int) ≤ a0_1) = False := eq_false (by omega)
    have H0 := Aside0.mk h
    have CE := Aside0.mk ce
    clear h ce
    have hlt0 : l0_0.length ≤ 9223372036854775807 := by have := CE.out; omega
    have q2 := fun o => Lib.cell?_alloc_some o q0
    go_enter Try.func134, Try.ntmps134
    go_upto_region 7 with (first
      | ((with_reducible refine gate_dst (N := 28) rfl ?_); (try (refine gate_guard (by rfl) ?_; dsimp only)); go_loud (refine Kd.R_make (w0 := w) (Kd.int .i64) w.heap.size 3 rfl (N := 28) rfl 23 _ _ rfl (l0_0.length : Int) rfl rfl Try.underlying23 (.int .i64 0) 8 tO.info rfl (by decide) (by omega) 0 (ok := fun _ => True) (okp := fun _ => True) rfl (fun _ hk => hk) trivial ?xh ?xl ?xB ?xb ?_); (case xh => omega); (case xl => (have := CE.out; omega)); (case xB => exact below_alloc BA.out _); (case xb => exact below_size (below_alloc BA.out _)); intro v1 w1 hr1 hb1 hg1 hn1; (obtain ⟨A1, d1, rfl⟩ := Kd.R_slice hr1); have HR1 := Aside0.mk hr1; have HB1 := Aside0.mk hb1; have HG1 := Aside0.mk hg1; have HN1 := Aside0.mk hn1; clear hr1 hb1 hg1 hn1))
    clear q0 q1 q2 c1t c2t c3t
    have hsz : w.heap.size + 2 ≤ w1.heap.size := by have := HG1.out.size; simpa using this
    have hxt := blk_grown (blk_alloc (heap_alloc_new w (.cells #[.slice A0_0 l0_0.length c0_0, .int .i64 a0_1] 39)) (.cells #[.slice none 0 0] 23)) HG1.out (by simp)
    have hxl := blk_grown (heap_alloc_new (w.alloc (.cells #[.slice A0_0 l0_0.length c0_0, .int .i64 a0_1] 39)) (.cells #[.slice none 0 0] 23)) HG1.out (by simp)
    have hsz1 : (w.alloc (.cells #[.slice A0_0 l0_0.length c0_0, .int .i64 a0_1] 39)).heap.size = w.heap.size + 1 := by simp
    rw [hsz1] at hxl
    obtain ⟨b1, hb1, hb2⟩ := HN1.out
    have hb3 := Kd.R_lt HR1.out b1 hb1
    have hb2' : w.heap.size + 2 ≤ b1 := by simpa using hb2
    have HRR := Kd.R_reok (ok := tO.ok w1.heap.size w.heap.size (w1.heap.size + 1) (w.heap.size + 1)) rfl HR1.out (fun k hk => by rw [hb1] at hk; injection hk with hk; subst hk; exact ⟨by omega, by omega, by omega, by omega⟩)
    have hrl : (List.replicate ((l0_0.length : Int)).toNat (0 : Int)) = List.replicate l0_0.length 0 := by rw [Int.toNat_natCast]
    rw [hrl] at HRR
    have hll : (List.replicate l0_0.length (0 : Int)).length = l0_0.length := by simp
    rw [hll] at HRR
    have HSF := Aside0.mk (show tO.Sv w w1.heap.size w.heap.size (w1.heap.size + 1) (w.heap.size + 1) A0_0 l0_0.length c0_0 a0_1 (.slice A1 l0_0.length d1) (.slice none 0 0) (List.replicate l0_0.length 0) [] ((w1.alloc (.cells #[.slice A1 l0_0.length d1] 23)).alloc (.cells #[.func (.func 146) #[] #[.pointer (some ⟨w1.heap.size, 0, none⟩), .pointer (some ⟨w.heap.size, 0, none⟩), .pointer (some ⟨w1.heap.size + 1, 0, none⟩), .pointer (some ⟨w.heap.size + 1, 0, none⟩)]] 110)) from
      ⟨below_alloc (below_alloc HB1.out _) _, by omega, Nat.le_refl _, by omega, by omega, ⟨by omega, by omega, by omega, by omega, by omega, by omega⟩, blk_alloc (heap_alloc_new w1 _) _, blk_alloc (blk_alloc hxt _) _, by simpa using heap_alloc_new (w1.alloc (.cells #[.slice A1 l0_0.length d1] 23)) _, blk_alloc (blk_alloc hxl _) _, Kd.R_alloc (Kd.R_alloc HRR _) _, Kd.R_nil _ _ _ _ _, fun k hk => by simp [Value.ownBlock]⟩)
    clear hsz hxt hxl hsz1 hb1 hb2 hb2' hb3 HRR hrl hll
    generalize (Value.slice A1 l0_0.length d1) = vs at HSF ⊢
    generalize (w1.alloc _).alloc _ = wF at HSF ⊢
    generalize w1.heap.size = bs at HSF ⊢
    have qt := (blk_cell HSF.out.xt 0).trans rfl
    have Hw := Aside0.mk (show w.heap.size = w.heap.size from rfl)
    go_wp2
    go_loopg [33] k (fun gg s33 wr => ∃ (i : Nat) (st l : List Int) (vl : Value), s33 = .int .i64 i ∧ i ≤ l0_0.length ∧ Aside0 (tO.Sv w bs w.heap.size (bs + 1) (w.heap.size + 1) A0_0 l0_0.length c0_0 a0_1 vs vl st l wr) ∧ Aside0 (tO.all l0_0 gg i st l = some (r1, r2)))
    case atStart => exact ⟨0, _, _, _, rfl, Nat.zero_le _, HSF, H0⟩
    case round =>
      obtain ⟨i, st, l, vl, rfl, hi, HS, HL⟩ := hrel
      cases gk with
      | zero => exact absurd HL.out (by rw [tO.all]; exact fun e => by cases e)
      | succ q =>
      have hL := HL.out
      rw [tO.all] at hL
      clear HL
      by_cases ci : i < l0_0.length
      · rw [if_pos ci] at hL
        have ciz : ((i : Int) < (l0_0.length : Int)) = True := eq_true (by omega)
        have ei : wrap64 ((i : Int) + 1) = (i : Int) + 1 := by unfold wrap64; omega
        have q3 := (blk_cell HS.out.xv 0).trans rfl
        cases hv : tO.visit l0_0 q i st l with
        | none => rw [hv] at hL; cases hL
        | some p =>
        obtain ⟨b2, st3, l3⟩ := p
        rw [hv] at hL
        simp only [Option.bind_some] at hL
        have HV := Aside0.mk hv
        clear hv
        cases b2 with
        | true =>
          rw [if_pos rfl] at hL
          have HL2 := Aside0.mk hL
          clear hL
          go_wp2_with (first | (go_at_fn 146; refine (tO.visit_calls HR0.out HC0.out (by have := CE.out; omega) q q (Nat.le_refl _) i _ _ _ _ _ true st3 l3 HS.out HV.out).mono ?_; rintro e w5 ⟨rfl, vl5, hs5, -⟩; have HS5 := Aside0.mk hs5; clear hs5) | (refine (tO.visit_calls HR0.out HC0.out (by have := CE.out; omega) q q (Nat.le_refl _) i _ _ _ _ _ true st3 l3 HS.out HV.out).mono ?_; rintro e w5 ⟨rfl, vl5, hs5, -⟩; have HS5 := Aside0.mk hs5; clear hs5))
          go_roundg q
          case measure => omega
          case rel => exact ⟨i + 1, _, _, _, by go_num, by omega, HS5, HL2⟩
        | false =>
          rw [if_neg (by simp)] at hL
          have hL := Option.some.inj hL
          injection hL with h1 h2
          subst h1; subst h2
          go_wp2_with (first | (go_at_fn 146; refine (tO.visit_calls HR0.out HC0.out (by have := CE.out; omega) q q (Nat.le_refl _) i _ _ _ _ _ false st3 l3 HS.out HV.out).mono ?_; rintro e w5 ⟨rfl, vl5, hs5, -⟩; have HS5 := Aside0.mk hs5; clear hs5) | (refine (tO.visit_calls HR0.out HC0.out (by have := CE.out; omega) q q (Nat.le_refl _) i _ _ _ _ _ false st3 l3 HS.out HV.out).mono ?_; rintro e w5 ⟨rfl, vl5, hs5, -⟩; have HS5 := Aside0.mk hs5; clear hs5))
          go_ret2
          exact ⟨_, rfl, Kd.R_nil _ _ _ _ _, HS5.out.below⟩
      · rw [if_neg ci] at hL
        have hL := Option.some.inj hL
        injection hL with h1 h2
        subst h1; subst h2
        have ciz : ((i : Int) < (l0_0.length : Int)) = False := eq_false (by omega)
        have q4 := (blk_cell HS.out.xl 0).trans rfl
        go_wp2
        go_ret2
        exact ⟨_, rfl, Kd.R_mono HS.out.rl (fun _ _ => trivial), HS.out.below⟩

end Go.Proofs.Ythgiiikjcfhgjaa.GK
