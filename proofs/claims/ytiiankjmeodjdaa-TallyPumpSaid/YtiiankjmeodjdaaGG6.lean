-- Written by ext.py, a program of this session.
import Derived.Test.YtiiankjmeodjdaaGG0
import Derived.Test.YtiiankjmeodjdaaGG3
import Derived.Test.YtiiankjmeodjdaaGG4
import Derived.Test.YtiiankjmeodjdaaGG5
namespace Go.Proofs.Ytiiankjmeodjdaa.GG
open Go.RowKit Go.Proofs.YtiiankjmeodjdaaW.PrintWords Go.Proofs.YtiiankjmeodjdaaW.PrintLast Go.Proofs.YtiiankjmeodjdaaW.PrintMore
attribute [local go_sem] max2_int min2_int max_two min_two max_three min_three max_four min_four cellIs_set   -- for this text's walks alone
set_option linter.unusedVariables false
set_option linter.unusedSimpArgs false

/-! ### coppicerkeep_good: function 19 -/
def coppicerkeep_good.f (k : Nat) (a0_0 : Int) (a0_1 : Int) (l0_2 : List (List Int)) (a0_3 : Int) (a0_4 : Int) (l1 : List Int) : Option (Bool) := (coppicerref_MachineCheck.f k a0_0 a0_1 l0_2 a0_3 a0_4).bind fun t125 => (if t125 = 0 then ((coppicerref_WordCheck.f k a0_1 l1).bind fun t126 => (some (t126 == 0))) else (some false))
theorem coppicerkeep_good.mono : ∀ a0 a1 a2 a3 a4 a5 k, LeO (coppicerkeep_good.f k a0 a1 a2 a3 a4 a5) (coppicerkeep_good.f (k + 1) a0 a1 a2 a3 a4 a5) := by
  intro a0 a1 a2 a3 a4 a5 k
  unfold coppicerkeep_good.f
  repeat' first
      | (with_reducible exact coppicerref_MachineCheck.mono _ _ _ _ _ _)
      | (with_reducible exact coppicerref_WordCheck.mono _ _ _)
      | (with_reducible exact LeO.refl _)
      | (with_reducible exact LeO.none _)
      | (with_reducible refine LeO.ite ?_ ?_)
      | (with_reducible refine LeO.bind ?_ (fun _ => ?_))
      | exact coppicerref_MachineCheck.mono _ _ _ _ _ _
      | exact coppicerref_WordCheck.mono _ _ _
      | exact LeO.none _
      | refine LeO.ite ?_ ?_
      | refine LeO.bind ?_ (fun _ => ?_)
set_option maxHeartbeats 8000000 in
set_option maxRecDepth 100000 in
theorem coppicerkeep_good.calls (k : Nat) (a0_0 : Int) (a0_1 : Int) (A0_2 : Option Addr) (c0_2 : Nat) (l0_2 : List (List Int)) (a0_3 : Int) (a0_4 : Int) (A1 : Option Addr) (c1 : Nat) (l1 : List Int) (r : Bool) (w : World) (hr0_2 : Kd.C (Kd.slice 3 (Kd.int .i64)) w A0_2 l0_2.length l0_2) (hc0_2 : l0_2.length ≤ c0_2) (hr1 : Kd.C (Kd.int .i64) w A1 l1.length l1) (hc1 : l1.length ≤ c1) (h : coppicerkeep_good.f k a0_0 a0_1 l0_2 a0_3 a0_4 l1 = some r) :
    Calls Try.prog 19 #[.agg #[.int .i64 a0_0, .int .i64 a0_1, .slice A0_2 l0_2.length c0_2, .int .i64 a0_3, .int .u32 a0_4], .slice A1 l1.length c1] w fun e w' => e = .returned (.bool r) ∧ Below w.heap.size w w' := by
  have hu37 := Try.underlying37
  have HR0_2 := Aside0.mk hr0_2
  have HC0_2 := Aside0.mk hc0_2
  clear hr0_2 hc0_2
  have HR1 := Aside0.mk hr1
  have HC1 := Aside0.mk hc1
  clear hr1 hc1
  have HB := Aside0.mk (Below.refl w.heap.size w)
  have H : ((coppicerref_MachineCheck.f k a0_0 a0_1 l0_2 a0_3 a0_4).bind fun t125 => (if t125 = 0 then ((coppicerref_WordCheck.f k a0_1 l1).bind fun t126 => (some (t126 == 0))) else (some false))) = some r := h
  clear h
  replace H := Option.bind_eq_some_iff.mp H
  obtain ⟨t125, A30, H⟩ := H
  replace H : (if t125 = 0 then ((coppicerref_WordCheck.f k a0_1 l1).bind fun t126 => (some (t126 == 0))) else (some false)) = some r := H
  have A3 := Aside0.mk A30
  clear A30
  by_cases c4 : t125 = 0
  · rw [if_pos c4] at H
    have c4b0 : (t125 == 0) = true := beq_iff_eq.mpr c4
    have c4b1 : (t125 != 0) = false := bne_eq_false_iff_eq.mpr c4
    clear c4
    replace H := Option.bind_eq_some_iff.mp H
    obtain ⟨t126, A50, H⟩ := H
    replace H : (some (t126 == 0)) = some r := H
    have A5 := Aside0.mk A50
    clear A50
    obtain rfl := Option.some.inj H
    go_enter Try.func19, Try.ntmps19
    go_wp2_with (first | ((with_reducible refine gate_dst (N := 2) rfl ?_); refine box_event ?hg (N := 2) ?hd (cs := #[.int .i64 a0_0, .int .i64 a0_1, .slice A0_2 l0_2.length c0_2, .int .i64 a0_3, .int .u32 a0_4]) (t := 37) ?hr ?_; (case hd => rfl); (case hg => rfl); (case hr => first | (go_simp; done) | (go_simp; rfl)); intro gb124 hg w6 hbox hb; have n0_ := Aside0.mk (below_step (by repeat (first | (with_reducible first | exact HB.out | apply below_alloc | apply pw_below_drewN | apply below_drew1) | exact HB.out)) hb); have n1_ := Aside0.mk (hbox); have n2_ := Aside0.mk ((by rw [hg]; exact (below_size (by repeat (first | (with_reducible first | exact HB.out | apply below_alloc | apply pw_below_drewN | apply below_drew1) | exact HB.out))) : w.heap.size ≤ gb124)); have n3_ := Aside0.mk ((by rw [hg]; exact (below_size (by repeat (first | (with_reducible first | exact HB.out | apply below_alloc | apply pw_below_drewN | apply below_drew1) | exact HB.out))) : w.heap.size ≤ gb124)); clear HB; have HB := n0_; have BK124 := n1_; have GW124 := n2_; have GE124 := n3_; clear n0_ n1_ n2_ n3_; clear hb hbox hg; have hcz7_0 : w6.cell? ⟨gb124, 0, none⟩ = some (.int .i64 a0_0) := (blk_cell BK124.out 0).trans rfl; have hcz7_1 : w6.cell? ⟨gb124, 1, none⟩ = some (.int .i64 a0_1) := (blk_cell BK124.out 1).trans rfl; have hcz7_2 : w6.cell? ⟨gb124, 2, none⟩ = some (.slice A0_2 l0_2.length c0_2) := (blk_cell BK124.out 2).trans rfl; have hcz7_3 : w6.cell? ⟨gb124, 3, none⟩ = some (.int .i64 a0_3) := (blk_cell BK124.out 3).trans rfl; have hcz7_4 : w6.cell? ⟨gb124, 4, none⟩ = some (.int .u32 a0_4) := (blk_cell BK124.out 4).trans rfl; have hfz7_0 := blk_frozen BK124.out 0; have hfz7_1 := blk_frozen BK124.out 1; have hfz7_2 := blk_frozen BK124.out 2; have hfz7_3 := blk_frozen BK124.out 3; have hfz7_4 := blk_frozen BK124.out 4) | ((with_reducible refine gate_callee (f := 31) rfl ?_); refine goesL_ (some 6) rfl rfl Try.func31 (by kernel_rfl) rfl #[.agg #[.int .i64 a0_0, .int .i64 a0_1, .slice A0_2 l0_2.length c0_2, .int .i64 a0_3, .int .u32 a0_4]] rfl (by (try simp only [List.map_toArray, List.map_cons, List.map_nil]); first | done | rfl | (simp only [List.length_drop, List.length_take]; rfl)) ?_; (with_reducible refine (coppicerref_MachineCheck.calls k a0_0 a0_1 _ _ l0_2 a0_3 a0_4 t125 _ ?side1 ?side2 A3.out).mono ?_); (case side1 => repeat (first | exact (Kd.C_below HR0_2.out HB.out) | (with_reducible refine Kd.C_alloc ?_ _) | (with_reducible refine Kd.C_drewN ?_ _) | (with_reducible refine Kd.C_drew ?_))); (case side2 => exact HC0_2.out); rintro e w8 ⟨rfl, hb⟩; refine ⟨_, rfl, ?_⟩; have n0_ := Aside0.mk (blk_below (g := gb124) (o := .cells #[.int .i64 a0_0, .int .i64 a0_1, .slice A0_2 l0_2.length c0_2, .int .i64 a0_3, .int .u32 a0_4] 37 (0, 0)) (by (with_reducible repeat (first | refine blk_drewN ?_ _ | refine blk_drew ?_ | refine blk_alloc ?_ _)); exact BK124.out) hb); have n1_ := Aside0.mk (below_step (by repeat (first | (with_reducible first | exact HB.out | apply below_alloc | apply pw_below_drewN | apply below_drew1 | refine below_set ?_ GE124.out) | exact HB.out)) hb); clear BK124; clear HB; have BK124 := n0_; have HB := n1_; clear n0_ n1_; (try clear hb); (try clear hb2); (try clear hk); (try clear hi); have hcz9_0 : w8.cell? ⟨gb124, 0, none⟩ = some (.int .i64 a0_0) := (blk_cell BK124.out 0).trans rfl; have hcz9_1 : w8.cell? ⟨gb124, 1, none⟩ = some (.int .i64 a0_1) := (blk_cell BK124.out 1).trans rfl; have hcz9_2 : w8.cell? ⟨gb124, 2, none⟩ = some (.slice A0_2 l0_2.length c0_2) := (blk_cell BK124.out 2).trans rfl; have hcz9_3 : w8.cell? ⟨gb124, 3, none⟩ = some (.int .i64 a0_3) := (blk_cell BK124.out 3).trans rfl; have hcz9_4 : w8.cell? ⟨gb124, 4, none⟩ = some (.int .u32 a0_4) := (blk_cell BK124.out 4).trans rfl; have hfz9_0 := blk_frozen BK124.out 0; have hfz9_1 := blk_frozen BK124.out 1; have hfz9_2 := blk_frozen BK124.out 2; have hfz9_3 := blk_frozen BK124.out 3; have hfz9_4 := blk_frozen BK124.out 4) | (go_at_call 20; (with_reducible refine (coppicerref_WordCheck.calls k a0_1 _ _ l1 t126 _ ?side1 ?side2 A5.out).mono ?_); (case side1 => repeat (first | exact (Kd.C_below HR1.out HB.out) | (with_reducible refine Kd.C_alloc ?_ _) | (with_reducible refine Kd.C_drewN ?_ _) | (with_reducible refine Kd.C_drew ?_))); (case side2 => exact HC1.out); rintro e w' ⟨rfl, ⟨nd, rfl⟩⟩))
    go_ret
    exact ⟨by first | rfl | (simp [errW_none, errW_some] <;> rfl) | (simp [*, errW_none, errW_some] <;> rfl), by repeat (first | (with_reducible first | exact HB.out | apply below_alloc | apply pw_below_drewN | apply below_drew1 | refine below_set ?_ GE124.out) | exact HB.out)⟩
  · rw [if_neg c4] at H
    have c4b0 : (t125 == 0) = false := beq_eq_false_iff_ne.mpr c4
    have c4b1 : (t125 != 0) = true := bne_iff_ne.mpr c4
    obtain rfl := Option.some.inj H
    go_enter Try.func19, Try.ntmps19
    go_wp2_with (first | ((with_reducible refine gate_dst (N := 2) rfl ?_); refine box_event ?hg (N := 2) ?hd (cs := #[.int .i64 a0_0, .int .i64 a0_1, .slice A0_2 l0_2.length c0_2, .int .i64 a0_3, .int .u32 a0_4]) (t := 37) ?hr ?_; (case hd => rfl); (case hg => rfl); (case hr => first | (go_simp; done) | (go_simp; rfl)); intro gb124 hg w10 hbox hb; have n0_ := Aside0.mk (below_step (by repeat (first | (with_reducible first | exact HB.out | apply below_alloc | apply pw_below_drewN | apply below_drew1) | exact HB.out)) hb); have n1_ := Aside0.mk (hbox); have n2_ := Aside0.mk ((by rw [hg]; exact (below_size (by repeat (first | (with_reducible first | exact HB.out | apply below_alloc | apply pw_below_drewN | apply below_drew1) | exact HB.out))) : w.heap.size ≤ gb124)); have n3_ := Aside0.mk ((by rw [hg]; exact (below_size (by repeat (first | (with_reducible first | exact HB.out | apply below_alloc | apply pw_below_drewN | apply below_drew1) | exact HB.out))) : w.heap.size ≤ gb124)); clear HB; have HB := n0_; have BK124 := n1_; have GW124 := n2_; have GE124 := n3_; clear n0_ n1_ n2_ n3_; clear hb hbox hg; have hcz11_0 : w10.cell? ⟨gb124, 0, none⟩ = some (.int .i64 a0_0) := (blk_cell BK124.out 0).trans rfl; have hcz11_1 : w10.cell? ⟨gb124, 1, none⟩ = some (.int .i64 a0_1) := (blk_cell BK124.out 1).trans rfl; have hcz11_2 : w10.cell? ⟨gb124, 2, none⟩ = some (.slice A0_2 l0_2.length c0_2) := (blk_cell BK124.out 2).trans rfl; have hcz11_3 : w10.cell? ⟨gb124, 3, none⟩ = some (.int .i64 a0_3) := (blk_cell BK124.out 3).trans rfl; have hcz11_4 : w10.cell? ⟨gb124, 4, none⟩ = some (.int .u32 a0_4) := (blk_cell BK124.out 4).trans rfl; have hfz11_0 := blk_frozen BK124.out 0; have hfz11_1 := blk_frozen BK124.out 1; have hfz11_2 := blk_frozen BK124.out 2; have hfz11_3 := blk_frozen BK124.out 3; have hfz11_4 := blk_frozen BK124.out 4) | ((with_reducible refine gate_callee (f := 31) rfl ?_); refine goesL_ (some 6) rfl rfl Try.func31 (by kernel_rfl) rfl #[.agg #[.int .i64 a0_0, .int .i64 a0_1, .slice A0_2 l0_2.length c0_2, .int .i64 a0_3, .int .u32 a0_4]] rfl (by (try simp only [List.map_toArray, List.map_cons, List.map_nil]); first | done | rfl | (simp only [List.length_drop, List.length_take]; rfl)) ?_; (with_reducible refine (coppicerref_MachineCheck.calls k a0_0 a0_1 _ _ l0_2 a0_3 a0_4 t125 _ ?side1 ?side2 A3.out).mono ?_); (case side1 => repeat (first | exact (Kd.C_below HR0_2.out HB.out) | (with_reducible refine Kd.C_alloc ?_ _) | (with_reducible refine Kd.C_drewN ?_ _) | (with_reducible refine Kd.C_drew ?_))); (case side2 => exact HC0_2.out); rintro e w12 ⟨rfl, hb⟩; refine ⟨_, rfl, ?_⟩; have n0_ := Aside0.mk (blk_below (g := gb124) (o := .cells #[.int .i64 a0_0, .int .i64 a0_1, .slice A0_2 l0_2.length c0_2, .int .i64 a0_3, .int .u32 a0_4] 37 (0, 0)) (by (with_reducible repeat (first | refine blk_drewN ?_ _ | refine blk_drew ?_ | refine blk_alloc ?_ _)); exact BK124.out) hb); have n1_ := Aside0.mk (below_step (by repeat (first | (with_reducible first | exact HB.out | apply below_alloc | apply pw_below_drewN | apply below_drew1 | refine below_set ?_ GE124.out) | exact HB.out)) hb); clear BK124; clear HB; have BK124 := n0_; have HB := n1_; clear n0_ n1_; (try clear hb); (try clear hb2); (try clear hk); (try clear hi)))
    go_ret
    exact ⟨by first | rfl | (simp [errW_none, errW_some] <;> rfl) | (simp [*, errW_none, errW_some] <;> rfl), by repeat (first | (with_reducible first | exact HB.out | apply below_alloc | apply pw_below_drewN | apply below_drew1 | refine below_set ?_ GE124.out) | exact HB.out)⟩

/-! ### tally_Pump: function 22 -/
def tally_Pump.go (nx : List (List Int)) : List Int → Int → List Int → Option (Int × Int × Int)
  | _, _, [] => some (0, 0, 5)
  | sts, at_, s :: w =>
    if 0 ≤ at_ ∧ at_ < (nx.length : Int) ∧ 0 ≤ s ∧ s < ((nx.getD at_.toNat []).length : Int) ∧ -9223372036854775808 ≤ (nx.getD at_.toNat []).getD s.toNat 0 ∧ (nx.getD at_.toNat []).getD s.toNat 0 ≤ 9223372036854775807 ∧ sts.length < 1000000 then
      (if (nx.getD at_.toNat []).getD s.toNat 0 ∈ sts then some ((sts.idxOf ((nx.getD at_.toNat []).getD s.toNat 0) : Nat), (sts.length : Nat), 0)
      else tally_Pump.go nx (sts ++ [(nx.getD at_.toNat []).getD s.toNat 0]) ((nx.getD at_.toNat []).getD s.toNat 0) w)
    else none
def tally_Pump.f (k : Nat) (a0_0 : Int) (a0_1 : Int) (l0_2 : List (List Int)) (a0_3 : Int) (a0_4 : Int) (l1 : List Int) : Option (Int × Int × Int) :=
  (machine_Run.f k a0_0 a0_1 l0_2 a0_3 a0_4 l1).bind fun t => if t.2.2 = 0 then (if -9223372036854775808 ≤ a0_3 ∧ a0_3 ≤ 9223372036854775807 then tally_Pump.go l0_2 [a0_3] a0_3 l1 else none) else some (0, 0, t.2.2)
theorem tally_Pump.mono : ∀ a0 a1 a2 a3 a4 a5 k, LeO (tally_Pump.f k a0 a1 a2 a3 a4 a5) (tally_Pump.f (k + 1) a0 a1 a2 a3 a4 a5) := by
  intro a0 a1 a2 a3 a4 a5 k
  unfold tally_Pump.f
  exact LeO.bind (machine_Run.mono _ _ _ _ _ _ _) (fun _ => LeO.refl _)
theorem tally_Pump.und : Try.prog.underlying 83 = some (.map 3 3) := by kernel_rfl
theorem tally_Pump.room {n : Nat} {sts : List Int} (h : sts.length = n) (g : sts.length < 1000000) : Aside0 (n < maxLen) := ⟨by unfold maxLen; omega⟩
theorem tally_Pump.wf1 {n : Nat} {sts : List Int} (h : sts.length = n + 1) (g : sts.length < 1000000) : Aside0 ((Lit.int .i64 ((n : Int) + 1)).wf = true) := ⟨by
  have e : wrap64 ((n : Int) + 1) = (n : Int) + 1 := by unfold wrap64; omega
  rw [← e]
  exact wrap64_wf _⟩
theorem tally_Pump.law : Go.Maps.Keyed Try.prog 3 := Go.Maps.int_keyed Try.underlying3
theorem tally_Pump.zero (w : World) : (zeroValue 3).run Try.prog w = .ok (.int .i64 0) w := by kernel_rfl
/-- A map that a literal fills: its entry. -/
theorem tally_Pump.ins {P : Program} (w : World) {ops : Array Oper} {rest : List Oper} {o : Oper} {a : Act} {Q : Exit → Act → World → Prop}
    (hg : o.guard = none) (m x v : Operand) (t : TypeId) (hop : o.op = Op.insert t m x v)
    (k e : TypeId) (K : Go.Maps.Keyed P k) (ht : P.underlying t = some (.map k e)) (R : Value → Option (DataW Unit × List MemPlace)) (b n : Nat) (D : DataW Unit)
    (hm : a.eval m = .map (some b)) (hown : w.ownsMap P k R b n D) (hn : n < maxLen) (key val : Value) (kl : Lit) (hx : a.eval x = key) (hv : a.eval v = val) (hkey : keyOf P k key = some kl)
    (d : DataW Unit) (ps : List MemPlace) (hval : R val = some (d, ps))
    (hK : ∀ w', w'.ownsMap P k R b (n + 1) (D.put kl d) → w.grownBy w' (some b) → wpList P ops Q rest (a.put o.dst undef) w') :
    wpList P ops Q (o :: rest) a w := by
  refine wpList_plain hg fun K' hK' => ?_
  obtain ⟨w', hrun, r1, r2⟩ := hown.update K ht hn hkey hval
  unfold Oper.wp
  simp [execOp, hop, hm, hx, hv, hrun, Result.andThen]
  exact hK' _ _ (hK w' r1 r2)
/-- What a map of the states says: each state's first place. -/
structure tally_Pump.Reads (D : DataW Unit) (sts : List Int) : Prop where
  m : Go.Maps.IsMap D
  has : ∀ x : Int, Go.Maps.has D (.int .i64 x) = decide (x ∈ sts)
  at_ : ∀ x : Int, x ∈ sts → ∀ z, D.atKey (.int .i64 x) z = .lit (.int .i64 (sts.idxOf x : Nat))
theorem tally_Pump.reads_nil : tally_Pump.Reads (.map []) [] := by
  refine ⟨Go.Maps.isMap_empty, fun x => ?_, fun x hx => absurd hx (by simp)⟩
  rfl
theorem tally_Pump.reads_put {D : DataW Unit} {sts : List Int} (h : tally_Pump.Reads D sts) {x : Int} (hx : ¬ x ∈ sts) : tally_Pump.Reads (D.put (.int .i64 x) (.lit (.int .i64 (sts.length : Nat)))) (sts ++ [x]) := by
  have hk : WideAt.IsKeyLit (.int .i64 x) := trivial
  refine ⟨h.m.put _ _, fun y => ?_, fun y hy z => ?_⟩
  · by_cases e : y = x
    · subst e
      rw [Go.Maps.has_put_same h.m hk]
      simp
    · rw [Go.Maps.has_put_other (by intro h2; injection h2 with _ h2; exact e h2), h.has y]
      simp [e]
  · by_cases e : y = x
    · subst e
      rw [Go.Maps.atKey_put_same h.m hk, List.idxOf_append, if_neg hx]
      simp
    · rw [Go.Maps.atKey_put_other (by intro h2; injection h2 with _ h2; exact e h2)]
      have hy2 : y ∈ sts := by simpa [e] using hy
      rw [h.at_ y hy2, List.idxOf_append, if_pos hy2]
set_option maxHeartbeats 8000000 in
set_option maxRecDepth 100000 in
theorem tally_Pump.calls (k : Nat) (a0_0 : Int) (a0_1 : Int) (A0_2 : Option Addr) (c0_2 : Nat) (l0_2 : List (List Int)) (a0_3 : Int) (a0_4 : Int) (A1 : Option Addr) (c1 : Nat) (l1 : List Int) (r1 : Int) (r2 : Int) (r3 : Int) (w : World) (hr0_2 : Kd.C (Kd.slice 3 (Kd.int .i64)) w A0_2 l0_2.length l0_2) (hc0_2 : l0_2.length ≤ c0_2) (hr1 : Kd.C (Kd.int .i64) w A1 l1.length l1) (hc1 : l1.length ≤ c1) (h : tally_Pump.f k a0_0 a0_1 l0_2 a0_3 a0_4 l1 = some (r1, r2, r3)) :
    Calls Try.prog 22 #[.agg #[.int .i64 a0_0, .int .i64 a0_1, .slice A0_2 l0_2.length c0_2, .int .i64 a0_3, .int .u32 a0_4], .slice A1 l1.length c1] w fun e w' => e = .returned (.tuple #[.int .i64 r1, .int .i64 r2, .int .i64 r3]) ∧ Below w.heap.size w w' := by
  have hu37 := Try.underlying37
  unfold tally_Pump.f at h
  replace h := Option.bind_eq_some_iff.mp h
  obtain ⟨⟨q1, q2, q3⟩, hrun, h⟩ := h
  have hRun := machine_Run.calls k a0_0 a0_1 A0_2 c0_2 l0_2 a0_3 a0_4 A1 c1 l1 q1 q2 q3 (w.alloc (.cells #[.int .i64 a0_0, .int .i64 a0_1, .slice A0_2 l0_2.length c0_2, .int .i64 a0_3, .int .u32 a0_4] 37)) (Kd.C_alloc hr0_2 _) hc0_2 (Kd.C_alloc hr1 _) hc1 hrun
  clear hrun
  have HR0 := Aside0.mk hr0_2
  have HR1 := Aside0.mk (Kd.reads_of_C (enc := Value.int .i64) (d := (0 : Int)) (h1 := fun _ => rfl) hr1)
  clear hr0_2 hr1 hc0_2 hc1
  by_cases c : q3 = 0
  · subst c
    replace h : (if -9223372036854775808 ≤ a0_3 ∧ a0_3 ≤ 9223372036854775807 then tally_Pump.go l0_2 [a0_3] a0_3 l1 else none) = some (r1, r2, r3) := h
    by_cases c2 : -9223372036854775808 ≤ a0_3 ∧ a0_3 ≤ 9223372036854775807
    · rw [if_pos c2] at h
      have hwf : (Lit.int .i64 a0_3).wf = true := by simpa [Lit.wf, IntKind.min, IntKind.max, IntKind.signed, IntKind.bits] using c2
      have HG := Aside0.mk h
      clear h c2
      have hmm := @run_makeMap Try.prog
      go_enter Try.func22, Try.ntmps22
      go_wp2_with (first
        | (go_at_call 18; go_loud (refine hRun.mono ?_); rintro e w1 ⟨rfl, hb⟩; clear hRun; have HB1 := Aside0.mk (below_step (below_alloc (Below.refl _ w) _) hb); have BK1 := Aside0.mk (blk_below (heap_alloc_new w _) hb); clear hb; have hc3 : (w1.alloc (.map #[] 0)).cell? ⟨w.heap.size, 3, none⟩ = some (.int .i64 a0_3) := (blk_cell (blk_alloc BK1.out _) 3).trans rfl)
        | (refine tally_Pump.ins _ rfl (.tmp 26) (.tmp 28) (.const (.int .i64 0)) 83 rfl 3 3 tally_Pump.law tally_Pump.und (plainElem Try.prog 3) _ 0 (.map []) rfl (World.ownsMap_made _ _ _ _) (by unfold maxLen; omega) _ _ _ rfl rfl (Go.Maps.keyOf_int_mk Try.underlying3 hwf) _ [] (plainElem_int Try.underlying3 (by decide)) ?_; intro w2 hown hgrow; have BK2 := Aside0.mk (blk_grown (blk_alloc BK1.out _) hgrow (by intro e; injection e with e; have := blk_lt BK1.out; omega)); have HB2 := Aside0.mk (Below.grown (below_alloc HB1.out _) hgrow (below_size (below_alloc HB1.out _)) (fun k e => by injection e with e; have := below_size HB1.out; omega)); have hlt2 := blk_lt BK1.out; have hlt1 := below_size HB1.out; have hc3b : w2.cell? ⟨w.heap.size, 3, none⟩ = some (.int .i64 a0_3) := (blk_cell BK2.out 3).trans rfl; clear hgrow hc3 BK1 HB1))
      clear hwf hmm hc3b
      go_loopg [11, 34] l1.length (fun gg v11 v34 wr => ∃ (kk : Nat) (at_ : Int) (sts : List Int) (D : DataW Unit), kk ≤ l1.length ∧ l1.length - kk ≤ gg ∧ v11 = .int .i64 at_ ∧ v34 = .int .i64 kk ∧ Aside0 (sts.length = kk + 1) ∧ Aside0 (tally_Pump.Reads D sts) ∧ Aside0 (tally_Pump.go l0_2 sts at_ (l1.drop kk) = some (r1, r2, r3)) ∧ Aside0 (wr.ownsMap Try.prog 3 (plainElem Try.prog 3) w1.heap.size (kk + 1) D) ∧ Aside0 (wr.heap[w.heap.size]? = some (.cells #[.int .i64 a0_0, .int .i64 a0_1, .slice A0_2 l0_2.length c0_2, .int .i64 a0_3, .int .u32 a0_4] 37 (0, 0))) ∧ Aside0 (Below w.heap.size w wr))
      case atStart => exact ⟨0, a0_3, [a0_3], _, Nat.zero_le _, by omega, rfl, rfl, ⟨rfl⟩, ⟨tally_Pump.reads_put tally_Pump.reads_nil (by simp)⟩, ⟨HG.out⟩, ⟨hown⟩, ⟨BK2.out⟩, ⟨HB2.out⟩⟩
      case round =>
        clear HG hown BK2 HB2
        obtain ⟨kk, at_, sts, D, hkk, hgg, rfl, rfl, HL, HD, HG, HO, BK, HBr⟩ := hrel
        by_cases hlt : kk < l1.length
        · have hltz : (kk : Int) < (l1.length : Int) := by omega
          have hdr : l1.drop kk = l1.getD kk 0 :: l1.drop (kk + 1) := by rw [List.drop_eq_getElem_cons hlt, List.getD_eq_getElem?_getD, List.getElem?_eq_getElem hlt, Option.getD_some]
          have hgo := HG.out
          rw [hdr, tally_Pump.go] at hgo
          obtain ⟨ad1, rfl, hcl1⟩ := HR1.out.2.2 (by omega)
          have hc1 := pw_cell_below HBr.out (hcl1 kk hlt)
          clear hcl1 HG hdr
          by_cases hcond : 0 ≤ at_ ∧ at_ < (l0_2.length : Int) ∧ 0 ≤ l1.getD kk 0 ∧ l1.getD kk 0 < ((l0_2.getD at_.toNat []).length : Int) ∧ -9223372036854775808 ≤ (l0_2.getD at_.toNat []).getD (l1.getD kk 0).toNat 0 ∧ (l0_2.getD at_.toNat []).getD (l1.getD kk 0).toNat 0 ≤ 9223372036854775807 ∧ sts.length < 1000000
          · rw [if_pos hcond] at hgo
            obtain ⟨g0, g1, g2, g3, g4, g5, g6⟩ := hcond
            obtain ⟨ad2, cs, rfl, _, ⟨A', c', rfl, _, hC⟩, hcl2⟩ := ReadsRow.get_ HR0.out [] at_ g0 g1
            have hc2 := pw_cell_below HBr.out (hcl2 0 _ rfl)
            rw [show (Kd.slice 3 (Kd.int .i64)).sz = 1 from rfl, Nat.mul_one, Nat.add_zero] at hc2
            obtain ⟨i, rfl⟩ := Int.eq_ofNat_of_zero_le g0
            rw [Int.toNat_natCast] at *
            generalize l1.getD kk 0 = s at *
            obtain ⟨j, rfl⟩ := Int.eq_ofNat_of_zero_le g2
            rw [Int.toNat_natCast] at *
            obtain ⟨ad3, rfl, hcl3⟩ := (Kd.reads_of_C (enc := Value.int .i64) (d := (0 : Int)) (h1 := fun _ => rfl) hC).2.2 (by omega)
            have hc3 := pw_cell_below HBr.out (hcl3 j (by omega))
            clear hcl2 hcl3 hC
            generalize hx : (l0_2.getD i []).getD j 0 = x at *
            clear hx
            generalize (l0_2.getD i []).length = ln at *
            have hwf : (Lit.int .i64 x).wf = true := by simpa [Lit.wf, IntKind.min, IntKind.max, IntKind.signed, IntKind.bits] using ⟨g4, g5⟩
            have hkey : keyOf Try.prog 3 (.int .i64 x) = some (.int .i64 x) := Go.Maps.keyOf_int_mk Try.underlying3 hwf
            have hb2 : wr.cell? ⟨w.heap.size, 2, none⟩ = some (.slice (some ad2) l0_2.length c0_2) := (blk_cell BK.out 2).trans rfl
            obtain ⟨b1, o1, t1⟩ := ad1
            obtain ⟨b2, o2, t2⟩ := ad2
            obtain ⟨b3, o3, t3⟩ := ad3
            have hLL := HL.out
            by_cases hm : x ∈ sts
            · rw [if_pos hm] at hgo
              have hhas : Go.Maps.has D (.int .i64 x) = true := by rw [HD.out.has]; simpa using hm
              have hat := HD.out.at_ x hm (.lit (.int .i64 0))
              go_wp2_with (first
                | (at_lookup; refine wpList_lookup_own_ok _ rfl _ _ 83 rfl 3 3 tally_Pump.law tally_Pump.und (plainElem Try.prog 3) (tally_Pump.zero _) (.lit (.int .i64 0)) [] (plainElem_int Try.underlying3 (by decide)) w1.heap.size (kk + 1) D rfl HO.out _ _ rfl hkey ?_; intro v ps hv; rw [hhas]; rw [hat] at hv; obtain ⟨a9, rfl, hz, _⟩ := plainElem_int_inv Try.underlying3 hv)
                | go_in)
              injection hz with hz _
              injection hz with hz
              injection hz with _ hz
              injection hgo with hgo
              injection hgo with e1 hgo
              injection hgo with e2 e3
              have e4 : wrap64 ((kk : Int) + 1) = (kk : Int) + 1 := by unfold wrap64; omega
              go_ret3
              refine ⟨?_, HBr.out⟩
              subst e1 e3 hz
              have e5 : r2 = (kk : Int) + 1 := by omega
              subst e5
              first | rfl | (rw [i64_w, e4]) | (simp only [i64_w, e4])
            · rw [if_neg hm] at hgo
              have HG2 := Aside0.mk hgo
              clear hgo
              have hhas : Go.Maps.has D (.int .i64 x) = false := by rw [HD.out.has]; simpa using hm
              have hmx := tally_Pump.room hLL g6
              have hwf5 := tally_Pump.wf1 hLL g6
              go_wp2_with (first
                | (at_lookup; refine wpList_lookup_own_ok _ rfl _ _ 83 rfl 3 3 tally_Pump.law tally_Pump.und (plainElem Try.prog 3) (tally_Pump.zero _) (.lit (.int .i64 0)) [] (plainElem_int Try.underlying3 (by decide)) w1.heap.size (kk + 1) D rfl HO.out _ _ rfl hkey ?_; intro v ps hv; rw [hhas]; clear hv)
                | (at_mapUpdate; (refine wpList_mapUpdate_own _ rfl _ _ _ 83 rfl 3 3 tally_Pump.law tally_Pump.und (plainElem Try.prog 3) w1.heap.size (kk + 1) D rfl HO.out hmx.out (.int .i64 x) (.int .i64 ((kk : Int) + 1)) (.int .i64 x) rfl rfl hkey (.lit (.int .i64 ((kk : Int) + 1))) [] (plainElem_int Try.underlying3 hwf5.out) ?_); intro w5 hown1 hgrow1)
                | go_in)
              have HB5 := Aside0.mk (Below.grown HBr.out hgrow1 (below_size HBr.out) (fun k e => by injection e with e; omega))
              have BK5 := Aside0.mk (blk_grown BK.out hgrow1 (by intro e; injection e with e; omega))
              go_roundg (l1.length - (kk + 1))
              case measure => omega
              case rel =>
                refine ⟨kk + 1, x, sts ++ [x], _, by omega, by omega, rfl, by go_num, ⟨by rw [List.length_append, hLL]; rfl⟩, ⟨?_⟩, HG2, ⟨hown1⟩, ⟨BK5.out⟩, ⟨HB5.out⟩⟩
                have := tally_Pump.reads_put HD.out hm
                rw [hLL] at this
                exact this
          · rw [if_neg hcond] at hgo
            exact absurd hgo (by simp)
        · have hltz : ¬ (kk : Int) < (l1.length : Int) := by omega
          obtain rfl : kk = l1.length := by omega
          have hgo := HG.out
          rw [List.drop_length, tally_Pump.go] at hgo
          injection hgo with hgo
          injection hgo with e1 hgo
          injection hgo with e2 e3
          subst e1 e2 e3
          go_wp2
          go_ret3
          exact ⟨rfl, HBr.out⟩
    · rw [if_neg c2] at h
      exact absurd h (by simp)
  · replace h : some ((0 : Int), (0 : Int), q3) = some (r1, r2, r3) := by
      have := h
      rw [if_neg c] at this
      exact this
    injection h with h
    injection h with h1 h
    injection h with h2 h3
    subst h1 h2 h3
    have cb : (q3 != 0) = true := bne_iff_ne.2 c
    go_enter Try.func22, Try.ntmps22
    go_wp2_with (go_at_call 18; go_loud (refine hRun.mono ?_); rintro e w1 ⟨rfl, hb⟩; have HB1 := Aside0.mk (below_step (below_alloc (Below.refl _ w) _) hb); clear hb)
    go_ret3
    exact ⟨rfl, by repeat (first | exact HB1.out | apply below_alloc | apply pw_below_drewN)⟩

end Go.Proofs.Ytiiankjmeodjdaa.GG
