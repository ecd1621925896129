-- Written by ext.py, a program of this session.
import Derived.Test.YthgiiikjcfhgjaaGU0
import Derived.Test.YthgiiikjcfhgjaaGU2
namespace Go.Proofs.Ythgiiikjcfhgjaa.GU
open Go.RowKit Go.Proofs.YthgiiikjcfhgjaaW.PrintWords Go.Proofs.YthgiiikjcfhgjaaW.PrintLast Go.Proofs.YthgiiikjcfhgjaaW.PrintMore
attribute [local go_sem] max2_int min2_int max_two min_two max_three min_three max_four min_four cellIs_set   -- for this text's walks alone
set_option linter.unusedVariables false
set_option linter.unusedSimpArgs false

/-! ### machine_Words: function 87 -/
def machine_Words.f (a0 : Int) (l1 : List Int) : Option Int := some (if l1.length > 12 then 1 else if l1.any (fun s => decide (s < 0) || decide (s ≥ a0)) = true then 2 else 0)
set_option maxHeartbeats 2000000 in
theorem machine_Words.idx (g : Nat) (lb : Array Value) (eg : ∀ args w, (callFunc g args).run Try.prog w = .ok (.enter g args) w) (A : Option Addr) (n c : Nat) (raw : Nat → Value) (p : Nat → Bool) (w : World) (hbig : n ≤ 9223372036854775807) (hc : ∀ j, j < n → ∃ ad, A = some ad ∧ w.cell? (ad.add j) = some (raw j))
    (hp : ∀ W j, j < n → Below w.heap.size w W → Calls Try.prog g (#[raw j] ++ lb) W fun e w' => e = .returned (.bool (p j)) ∧ ∃ q, w' = W.drewN q) :
    Calls Try.prog 111 #[.slice A n c, .func (.func g) #[] lb] w fun e w' => (∃ r : Int, e = .returned (.int .i64 r) ∧ (0 ≤ r ↔ ∃ j, j < n ∧ p j = true)) ∧ ∃ q, w' = w.drewN q := by
  go_enter Try.func111, Try.ntmps111
  go_wp2
  go_loopg [5, 8] n (fun gg _ s8 wr => ∃ kk q : Nat, kk ≤ n ∧ n - kk ≤ gg ∧ s8 = .int .i64 kk ∧ wr = w.drewN q ∧ Aside0 (∀ j, j < kk → p j = false))
  case atStart => exact ⟨0, 0, Nat.zero_le _, by omega, rfl, rfl, ⟨fun j hj => absurd hj (Nat.not_lt_zero _)⟩⟩
  case round =>
    obtain ⟨kk, q, hkk, hg, rfl, rfl, A0⟩ := hrel
    by_cases hlt : kk < n
    · have hltz : (kk : Int) < (n : Int) := by omega
      obtain ⟨ad, rfl, hcell⟩ := hc kk hlt
      have hcall := fun q => hp (w.drewN q) kk hlt (pw_below_drewN (Below.refl _ w) q)
      clear hc hp
      obtain ⟨b, off, lab⟩ := ad
      generalize raw kk = y at hcell hcall
      cases hq : p kk with
      | true =>
        rw [hq] at hcall
        go_wp2_with (go_at_fn g; refine (hcall _).mono ?_; rintro e w' ⟨rfl, q', rfl⟩)
        go_ret
        exact ⟨⟨(kk : Int), rfl, ⟨fun _ => ⟨kk, hlt, hq⟩, fun _ => by omega⟩⟩, _, rfl⟩
      | false =>
        rw [hq] at hcall
        go_wp2_with (go_at_fn g; refine (hcall _).mono ?_; rintro e w' ⟨rfl, q', rfl⟩)
        go_roundg (n - (kk + 1))
        case measure => omega
        case rel =>
          refine ⟨kk + 1, _, by omega, by omega, by go_num, rfl, ⟨fun j hj => ?_⟩⟩
          by_cases e : j = kk
          · subst e; exact hq
          · exact A0.out j (by omega)
    · have hltz : ¬ (kk : Int) < (n : Int) := by omega
      have : kk = n := by omega
      subst this
      go_wp2
      go_ret
      refine ⟨⟨-1, rfl, ⟨fun h => absurd h (by decide), fun ⟨j, hj, hj2⟩ => ?_⟩⟩, q, rfl⟩
      rw [A0.out j hj] at hj2
      exact absurd hj2 (by decide)
set_option maxHeartbeats 2000000 in
theorem machine_Words.any (g : Nat) (lb : Array Value) (eg : ∀ args w, (callFunc g args).run Try.prog w = .ok (.enter g args) w) (A : Option Addr) (n c : Nat) (raw : Nat → Value) (p : Nat → Bool) (w : World) (hbig : n ≤ 9223372036854775807) (hc : ∀ j, j < n → ∃ ad, A = some ad ∧ w.cell? (ad.add j) = some (raw j))
    (hp : ∀ W j, j < n → Below w.heap.size w W → Calls Try.prog g (#[raw j] ++ lb) W fun e w' => e = .returned (.bool (p j)) ∧ ∃ q, w' = W.drewN q) (b : Bool) (hb : b = true ↔ ∃ j, j < n ∧ p j = true) :
    Calls Try.prog 63 #[.slice A n c, .func (.func g) #[] lb] w fun e w' => e = .returned (.bool b) ∧ ∃ q, w' = w.drewN q := by
  have hI0 := machine_Words.idx g lb eg A n c raw p w hbig hc hp
  have hI := fun q => machine_Words.idx g lb eg A n c raw p (w.drewN q) hbig (fun j hj => hc j hj) (fun W j hj hB => hp W j hj ((pw_below_drewN (Below.refl _ w) q).trans hB))
  clear hc hp
  go_enter Try.func63, Try.ntmps63
  go_wp2_with (go_at_call 111; (first | refine hI0.mono ?_ | refine (hI _).mono ?_); rintro e w' ⟨⟨r, rfl, hr⟩, q', rfl⟩)
  go_ret
  refine ⟨?_, _, rfl⟩
  have : decide (0 ≤ r) = b := by
    rw [Bool.eq_iff_iff, decide_eq_true_iff, hr, hb]
  first | rw [this] | (subst this; rfl) | (simp [← this, hr]; done)
theorem machine_Words.lit (k s : Int) (B : Nat) (w : World) (hc : w.cell? ⟨B, 0, none⟩ = some (.int .i64 k)) :
    Calls Try.prog 122 #[.int .i64 s, .pointer (some ⟨B, 0, none⟩)] w fun e w' => e = .returned (.bool (decide (s < 0) || decide (s ≥ k))) ∧ ∃ q, w' = w.drewN q := by
  by_cases h1 : s < 0
  · have h1b : decide (s < 0) = true := decide_eq_true h1
    go_enter Try.func122, Try.ntmps122
    go_wp2
    all_goals go_ret
    all_goals first | exact ⟨by simp [h1], _, rfl⟩ | exact ⟨by simp [h1], 0, rfl⟩
  · have h1b : decide (s < 0) = false := decide_eq_false h1
    by_cases h2 : s ≥ k
    · have h2b : decide (s ≥ k) = true := decide_eq_true h2
      go_enter Try.func122, Try.ntmps122
      go_wp2
      all_goals go_ret
      all_goals first | exact ⟨by simp [h1, h2], _, rfl⟩ | exact ⟨by simp [h1, h2], 0, rfl⟩
    · have h2b : decide (s ≥ k) = false := decide_eq_false h2
      go_enter Try.func122, Try.ntmps122
      go_wp2
      all_goals go_ret
      all_goals first | exact ⟨by simp [h1, h2], _, rfl⟩ | exact ⟨by simp [h1, h2], 0, rfl⟩
set_option maxHeartbeats 8000000 in
set_option maxRecDepth 100000 in
theorem machine_Words.calls (a0 : Int) (A1 : Option Addr) (c1 : Nat) (l1 : List Int) (r : Int) (w : World) (hr1 : Kd.C (Kd.int .i64) w A1 l1.length l1) (hc1 : l1.length ≤ c1) (h : machine_Words.f a0 l1 = some r) :
    Calls Try.prog 87 #[.int .i64 a0, .slice A1 l1.length c1] w fun e w' => e = .returned (.int .i64 r) ∧ Below w.heap.size w w' := by
  unfold machine_Words.f at h
  obtain rfl := Option.some.inj h
  clear h
  have hr := Kd.reads_of_C (enc := Value.int .i64) (d := (0 : Int)) (h1 := fun _ => rfl) hr1
  by_cases c12 : l1.length > 12
  · rw [if_pos c12]
    have c12b : ((l1.length : Int) > 12) = True := eq_true (by omega)
    clear hr hr1 hc1
    go_enter Try.func87, Try.ntmps87
    go_wp2
    go_ret
    exact ⟨rfl, by repeat (first | exact Below.refl _ _ | apply below_alloc | apply pw_below_drewN)⟩
  · rw [if_neg c12]
    have c12b : ((l1.length : Int) > 12) = False := eq_false (by omega)
    generalize hbv : (l1.any fun s => decide (s < 0) || decide (s ≥ a0)) = b
    have hA := machine_Words.any 122 #[.pointer (some ⟨w.heap.size, 0, none⟩)] (enters_of Try.func122 (by kernel_rfl) rfl) A1 l1.length c1 (fun j => .int .i64 (l1.getD j 0)) (fun j => decide (l1.getD j 0 < 0) || decide (l1.getD j 0 ≥ a0)) (w.alloc (.cells #[.int .i64 a0] 3)) hr.2.1
      (fun j hj => by
        obtain ⟨ad, e, hcl⟩ := hr.2.2 (by omega)
        exact ⟨ad, e, Lib.cell?_alloc_some _ (hcl j hj)⟩)
      (fun W j hj hB => machine_Words.lit a0 _ w.heap.size W ((hB.cell (p := ⟨w.heap.size, 0, none⟩) (by simp)).trans (by simp))) b
      (by
        rw [← hbv, List.any_eq_true]
        constructor
        · rintro ⟨x, hx, hx2⟩
          obtain ⟨j, hj, rfl⟩ := List.getElem_of_mem hx
          refine ⟨j, hj, ?_⟩
          rwa [List.getD_eq_getElem?_getD, List.getElem?_eq_getElem hj]
        · rintro ⟨j, hj, hj2⟩
          rw [List.getD_eq_getElem?_getD, List.getElem?_eq_getElem hj] at hj2
          exact ⟨_, List.getElem_mem hj, hj2⟩)
    clear hr hr1 hc1 hbv
    cases b with
    | true =>
      go_enter Try.func87, Try.ntmps87
      go_wp2_with (go_at_call 63; go_loud (refine hA.mono ?_); rintro e w' ⟨rfl, q, rfl⟩)
      go_ret
      exact ⟨rfl, by repeat (first | exact Below.refl _ _ | apply below_alloc | apply pw_below_drewN)⟩
    | false =>
      go_enter Try.func87, Try.ntmps87
      go_wp2_with (go_at_call 63; go_loud (refine hA.mono ?_); rintro e w' ⟨rfl, q, rfl⟩)
      go_ret
      exact ⟨rfl, by repeat (first | exact Below.refl _ _ | apply below_alloc | apply pw_below_drewN)⟩

/-! ### table_wrong: function 71 -/
def table_wrong.f (k : Nat) (a0_0 : Int) (a0_1 : Int) (a0_2 : Int) (l0_3 : List (S126)) (l1 : List Int) : Option (Int) := (grammar_Check.f k a0_0 a0_1 a0_2 l0_3).bind fun t109 => (if t109 = 0 then ((machine_Words.f a0_0 l1).bind fun t110 => (some t110)) else (some t109))
theorem table_wrong.mono : ∀ a0 a1 a2 a3 a4 k, LeO (table_wrong.f k a0 a1 a2 a3 a4) (table_wrong.f (k + 1) a0 a1 a2 a3 a4) := by
  intro a0 a1 a2 a3 a4 k
  unfold table_wrong.f
  repeat' first
      | (with_reducible exact grammar_Check.mono _ _ _ _ _)
      | (with_reducible exact LeO.refl _)
      | (with_reducible exact LeO.none _)
      | (with_reducible refine LeO.ite ?_ ?_)
      | (with_reducible refine LeO.bind ?_ (fun _ => ?_))
      | exact grammar_Check.mono _ _ _ _ _
      | exact LeO.none _
      | refine LeO.ite ?_ ?_
      | refine LeO.bind ?_ (fun _ => ?_)
set_option maxHeartbeats 8000000 in
set_option maxRecDepth 100000 in
theorem table_wrong.calls (k : Nat) (a0_0 : Int) (a0_1 : Int) (a0_2 : Int) (A0_3 : Option Addr) (c0_3 : Nat) (l0_3 : List (S126)) (A1 : Option Addr) (c1 : Nat) (l1 : List Int) (r : Int) (w : World) (hr0_3 : Kd.C k126 w A0_3 l0_3.length l0_3) (hc0_3 : l0_3.length ≤ c0_3) (hr1 : Kd.C (Kd.int .i64) w A1 l1.length l1) (hc1 : l1.length ≤ c1) (h : table_wrong.f k a0_0 a0_1 a0_2 l0_3 l1 = some r) :
    Calls Try.prog 71 #[.agg #[.int .i64 a0_0, .int .i64 a0_1, .int .i64 a0_2, .slice A0_3 l0_3.length c0_3], .slice A1 l1.length c1] w fun e w' => e = .returned (.int .i64 r) ∧ Below w.heap.size w w' := by
  have hu51 := Try.underlying51
  have HR0_3 := Aside0.mk hr0_3
  have HC0_3 := Aside0.mk hc0_3
  clear hr0_3 hc0_3
  have HR1 := Aside0.mk hr1
  have HC1 := Aside0.mk hc1
  clear hr1 hc1
  have HB := Aside0.mk (Below.refl w.heap.size w)
  have H : ((grammar_Check.f k a0_0 a0_1 a0_2 l0_3).bind fun t109 => (if t109 = 0 then ((machine_Words.f a0_0 l1).bind fun t110 => (some t110)) else (some t109))) = some r := h
  clear h
  replace H := Option.bind_eq_some_iff.mp H
  obtain ⟨t109, A30, H⟩ := H
  replace H : (if t109 = 0 then ((machine_Words.f a0_0 l1).bind fun t110 => (some t110)) else (some t109)) = some r := H
  have A3 := Aside0.mk A30
  clear A30
  by_cases c4 : t109 = 0
  · rw [if_pos c4] at H
    have c4b0 : (t109 == 0) = true := beq_iff_eq.mpr c4
    have c4b1 : (t109 != 0) = false := bne_eq_false_iff_eq.mpr c4
    clear c4
    replace H := Option.bind_eq_some_iff.mp H
    obtain ⟨t110, A50, H⟩ := H
    replace H : (some t110) = some r := H
    have A5 := Aside0.mk A50
    clear A50
    obtain rfl := Option.some.inj H
    go_enter Try.func71, Try.ntmps71
    go_wp2_with (first | ((with_reducible refine gate_dst (N := 2) rfl ?_); refine box_event ?hg (N := 2) ?hd (cs := #[.int .i64 a0_0, .int .i64 a0_1, .int .i64 a0_2, .slice A0_3 l0_3.length c0_3]) (t := 51) ?hr ?_; (case hd => rfl); (case hg => rfl); (case hr => first | (go_simp; done) | (go_simp; rfl)); intro gb108 hg w6 hbox hb; have n0_ := Aside0.mk (below_step (by repeat (first | (with_reducible first | exact HB.out | apply below_alloc | apply pw_below_drewN | apply below_drew1) | exact HB.out)) hb); have n1_ := Aside0.mk (hbox); have n2_ := Aside0.mk ((by rw [hg]; exact (below_size (by repeat (first | (with_reducible first | exact HB.out | apply below_alloc | apply pw_below_drewN | apply below_drew1) | exact HB.out))) : w.heap.size ≤ gb108)); have n3_ := Aside0.mk ((by rw [hg]; exact (below_size (by repeat (first | (with_reducible first | exact HB.out | apply below_alloc | apply pw_below_drewN | apply below_drew1) | exact HB.out))) : w.heap.size ≤ gb108)); clear HB; have HB := n0_; have BK108 := n1_; have GW108 := n2_; have GE108 := n3_; clear n0_ n1_ n2_ n3_; clear hb hbox hg; have hcz7_0 : w6.cell? ⟨gb108, 0, none⟩ = some (.int .i64 a0_0) := (blk_cell BK108.out 0).trans rfl; have hcz7_1 : w6.cell? ⟨gb108, 1, none⟩ = some (.int .i64 a0_1) := (blk_cell BK108.out 1).trans rfl; have hcz7_2 : w6.cell? ⟨gb108, 2, none⟩ = some (.int .i64 a0_2) := (blk_cell BK108.out 2).trans rfl; have hcz7_3 : w6.cell? ⟨gb108, 3, none⟩ = some (.slice A0_3 l0_3.length c0_3) := (blk_cell BK108.out 3).trans rfl; have hfz7_0 := blk_frozen BK108.out 0; have hfz7_1 := blk_frozen BK108.out 1; have hfz7_2 := blk_frozen BK108.out 2; have hfz7_3 := blk_frozen BK108.out 3) | ((with_reducible refine gate_callee (f := 79) rfl ?_); refine goesL_ (some 7) rfl rfl Try.func79 (by kernel_rfl) rfl #[.agg #[.int .i64 a0_0, .int .i64 a0_1, .int .i64 a0_2, .slice A0_3 l0_3.length c0_3]] rfl (by (try simp only [List.map_toArray, List.map_cons, List.map_nil]); first | done | rfl | (simp only [List.length_drop, List.length_take]; rfl)) ?_; (with_reducible refine (grammar_Check.calls k a0_0 a0_1 a0_2 _ _ l0_3 t109 _ ?side1 ?side2 A3.out).mono ?_); (case side1 => repeat (first | exact (Kd.C_below HR0_3.out HB.out) | (with_reducible refine Kd.C_alloc ?_ _) | (with_reducible refine Kd.C_drewN ?_ _) | (with_reducible refine Kd.C_drew ?_))); (case side2 => exact HC0_3.out); rintro e w8 ⟨rfl, hb⟩; refine ⟨_, rfl, ?_⟩; have n0_ := Aside0.mk (blk_below (g := gb108) (o := .cells #[.int .i64 a0_0, .int .i64 a0_1, .int .i64 a0_2, .slice A0_3 l0_3.length c0_3] 51 (0, 0)) (by (with_reducible repeat (first | refine blk_drewN ?_ _ | refine blk_drew ?_ | refine blk_alloc ?_ _)); exact BK108.out) hb); have n1_ := Aside0.mk (below_step (by repeat (first | (with_reducible first | exact HB.out | apply below_alloc | apply pw_below_drewN | apply below_drew1 | refine below_set ?_ GE108.out) | exact HB.out)) hb); clear BK108; clear HB; have BK108 := n0_; have HB := n1_; clear n0_ n1_; (try clear hb); (try clear hb2); (try clear hk); (try clear hi); have hcz9_0 : w8.cell? ⟨gb108, 0, none⟩ = some (.int .i64 a0_0) := (blk_cell BK108.out 0).trans rfl; have hcz9_1 : w8.cell? ⟨gb108, 1, none⟩ = some (.int .i64 a0_1) := (blk_cell BK108.out 1).trans rfl; have hcz9_2 : w8.cell? ⟨gb108, 2, none⟩ = some (.int .i64 a0_2) := (blk_cell BK108.out 2).trans rfl; have hcz9_3 : w8.cell? ⟨gb108, 3, none⟩ = some (.slice A0_3 l0_3.length c0_3) := (blk_cell BK108.out 3).trans rfl; have hfz9_0 := blk_frozen BK108.out 0; have hfz9_1 := blk_frozen BK108.out 1; have hfz9_2 := blk_frozen BK108.out 2; have hfz9_3 := blk_frozen BK108.out 3) | ((with_reducible refine gate_callee (f := 87) rfl ?_); refine goesL_ (some 14) rfl rfl Try.func87 (by kernel_rfl) rfl #[.int .i64 a0_0, .slice A1 l1.length c1] rfl (by (try simp only [List.map_toArray, List.map_cons, List.map_nil]); first | done | rfl | (simp only [List.length_drop, List.length_take]; rfl)) ?_; (with_reducible refine (machine_Words.calls a0_0 _ _ l1 t110 _ ?side1 ?side2 A5.out).mono ?_); (case side1 => repeat (first | exact (Kd.C_below HR1.out HB.out) | (with_reducible refine Kd.C_alloc ?_ _) | (with_reducible refine Kd.C_drewN ?_ _) | (with_reducible refine Kd.C_drew ?_))); (case side2 => exact HC1.out); rintro e w10 ⟨rfl, hb⟩; refine ⟨_, rfl, ?_⟩; have n0_ := Aside0.mk (blk_below (g := gb108) (o := .cells #[.int .i64 a0_0, .int .i64 a0_1, .int .i64 a0_2, .slice A0_3 l0_3.length c0_3] 51 (0, 0)) (by (with_reducible repeat (first | refine blk_drewN ?_ _ | refine blk_drew ?_ | refine blk_alloc ?_ _)); exact BK108.out) hb); have n1_ := Aside0.mk (below_step (by repeat (first | (with_reducible first | exact HB.out | apply below_alloc | apply pw_below_drewN | apply below_drew1 | refine below_set ?_ GE108.out) | exact HB.out)) hb); clear BK108; clear HB; have BK108 := n0_; have HB := n1_; clear n0_ n1_; (try clear hb); (try clear hb2); (try clear hk); (try clear hi)))
    go_ret
    exact ⟨by first | rfl | (simp [errW_none, errW_some] <;> rfl) | (simp [*, errW_none, errW_some] <;> rfl), by repeat (first | (with_reducible first | exact HB.out | apply below_alloc | apply pw_below_drewN | apply below_drew1 | refine below_set ?_ GE108.out) | exact HB.out)⟩
  · rw [if_neg c4] at H
    have c4b0 : (t109 == 0) = false := beq_eq_false_iff_ne.mpr c4
    have c4b1 : (t109 != 0) = true := bne_iff_ne.mpr c4
    obtain rfl := Option.some.inj H
    go_enter Try.func71, Try.ntmps71
    go_wp2_with (first | ((with_reducible refine gate_dst (N := 2) rfl ?_); refine box_event ?hg (N := 2) ?hd (cs := #[.int .i64 a0_0, .int .i64 a0_1, .int .i64 a0_2, .slice A0_3 l0_3.length c0_3]) (t := 51) ?hr ?_; (case hd => rfl); (case hg => rfl); (case hr => first | (go_simp; done) | (go_simp; rfl)); intro gb108 hg w11 hbox hb; have n0_ := Aside0.mk (below_step (by repeat (first | (with_reducible first | exact HB.out | apply below_alloc | apply pw_below_drewN | apply below_drew1) | exact HB.out)) hb); have n1_ := Aside0.mk (hbox); have n2_ := Aside0.mk ((by rw [hg]; exact (below_size (by repeat (first | (with_reducible first | exact HB.out | apply below_alloc | apply pw_below_drewN | apply below_drew1) | exact HB.out))) : w.heap.size ≤ gb108)); have n3_ := Aside0.mk ((by rw [hg]; exact (below_size (by repeat (first | (with_reducible first | exact HB.out | apply below_alloc | apply pw_below_drewN | apply below_drew1) | exact HB.out))) : w.heap.size ≤ gb108)); clear HB; have HB := n0_; have BK108 := n1_; have GW108 := n2_; have GE108 := n3_; clear n0_ n1_ n2_ n3_; clear hb hbox hg; have hcz12_0 : w11.cell? ⟨gb108, 0, none⟩ = some (.int .i64 a0_0) := (blk_cell BK108.out 0).trans rfl; have hcz12_1 : w11.cell? ⟨gb108, 1, none⟩ = some (.int .i64 a0_1) := (blk_cell BK108.out 1).trans rfl; have hcz12_2 : w11.cell? ⟨gb108, 2, none⟩ = some (.int .i64 a0_2) := (blk_cell BK108.out 2).trans rfl; have hcz12_3 : w11.cell? ⟨gb108, 3, none⟩ = some (.slice A0_3 l0_3.length c0_3) := (blk_cell BK108.out 3).trans rfl; have hfz12_0 := blk_frozen BK108.out 0; have hfz12_1 := blk_frozen BK108.out 1; have hfz12_2 := blk_frozen BK108.out 2; have hfz12_3 := blk_frozen BK108.out 3) | ((with_reducible refine gate_callee (f := 79) rfl ?_); refine goesL_ (some 7) rfl rfl Try.func79 (by kernel_rfl) rfl #[.agg #[.int .i64 a0_0, .int .i64 a0_1, .int .i64 a0_2, .slice A0_3 l0_3.length c0_3]] rfl (by (try simp only [List.map_toArray, List.map_cons, List.map_nil]); first | done | rfl | (simp only [List.length_drop, List.length_take]; rfl)) ?_; (with_reducible refine (grammar_Check.calls k a0_0 a0_1 a0_2 _ _ l0_3 t109 _ ?side1 ?side2 A3.out).mono ?_); (case side1 => repeat (first | exact (Kd.C_below HR0_3.out HB.out) | (with_reducible refine Kd.C_alloc ?_ _) | (with_reducible refine Kd.C_drewN ?_ _) | (with_reducible refine Kd.C_drew ?_))); (case side2 => exact HC0_3.out); rintro e w13 ⟨rfl, hb⟩; refine ⟨_, rfl, ?_⟩; have n0_ := Aside0.mk (blk_below (g := gb108) (o := .cells #[.int .i64 a0_0, .int .i64 a0_1, .int .i64 a0_2, .slice A0_3 l0_3.length c0_3] 51 (0, 0)) (by (with_reducible repeat (first | refine blk_drewN ?_ _ | refine blk_drew ?_ | refine blk_alloc ?_ _)); exact BK108.out) hb); have n1_ := Aside0.mk (below_step (by repeat (first | (with_reducible first | exact HB.out | apply below_alloc | apply pw_below_drewN | apply below_drew1 | refine below_set ?_ GE108.out) | exact HB.out)) hb); clear BK108; clear HB; have BK108 := n0_; have HB := n1_; clear n0_ n1_; (try clear hb); (try clear hb2); (try clear hk); (try clear hi)))
    go_ret
    exact ⟨by first | rfl | (simp [errW_none, errW_some] <;> rfl) | (simp [*, errW_none, errW_some] <;> rfl), by repeat (first | (with_reducible first | exact HB.out | apply below_alloc | apply pw_below_drewN | apply below_drew1 | refine below_set ?_ GE108.out) | exact HB.out)⟩

end Go.Proofs.Ythgiiikjcfhgjaa.GU
