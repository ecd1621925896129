-- Written by ext.py, a program of this session.
import Derived.Test.YthgiiikjcfhgjaaGC0
namespace Go.Proofs.Ythgiiikjcfhgjaa.GC
open Go.RowKit Go.Proofs.YthgiiikjcfhgjaaW.PrintWords Go.Proofs.YthgiiikjcfhgjaaW.PrintLast Go.Proofs.YthgiiikjcfhgjaaW.PrintMore
attribute [local go_sem] max2_int min2_int max_two min_two max_three min_three max_four min_four cellIs_set   -- for this text's walks alone
set_option linter.unusedVariables false
set_option linter.unusedSimpArgs false

/-! ### climb_wrong: function 51 -/
def climb_any.p (lv : Int) (rt : Bool) (x : S94) : Bool := lv == x.f0 && rt != x.f1
def climb_any.f (l0 : List S94) (lv : Int) (rt : Bool) : Option Bool := some (l0.any (climb_any.p lv rt))
set_option maxHeartbeats 2000000 in
theorem climb_any.lit (lv : Int) (rt : Bool) (a : Int) (b : Bool) (g : Nat) (w : World) (hk : w.cell? ⟨g, 0, none⟩ = some (.int .i64 lv)) (hk1 : w.cell? ⟨g, 1, none⟩ = some (.bool rt)) :
    Calls Try.prog 104 #[.agg #[.int .i64 a, .bool b], .pointer (some ⟨g, 0, none⟩)] w fun e w' => e = .returned (.bool (climb_any.p lv rt ⟨a, b⟩)) ∧ Below w.heap.size w w' := by
  have hu0 := Try.underlying94
  have q0 := fun o => Lib.cell?_alloc_some o hk
  have q1 := fun o => Lib.cell?_alloc_some o hk1
  have BL := Aside0.mk (below_alloc (Below.refl w.heap.size w) (Obj.cells #[.int .i64 a, .bool b] 94))
  have hp : climb_any.p lv rt ⟨a, b⟩ = (lv == a && rt != b) := rfl
  have HP := Aside0.mk hp
  clear hk hk1 hp
  by_cases c : lv = a
  · subst c
    cases rt <;> cases b
    all_goals
      go_enter Try.func104, Try.ntmps104
      go_wp2
      go_ret
      exact ⟨by rw [HP.out]; first | rfl | (simp; done), BL.out⟩
  · have cb : (lv == a) = false := by rw [beq_eq_false_iff_ne]; exact c
    have C := Aside0.mk c
    clear c
    go_enter Try.func104, Try.ntmps104
    go_wp2
    go_ret
    exact ⟨by rw [HP.out]; first | rfl | (simp [cb]; done), BL.out⟩
set_option maxHeartbeats 2000000 in
theorem climb_any.idx (lv : Int) (rt : Bool) (g : Nat) (A : Option Addr) (c : Nat) (l : List S94) (w : World) (hk : w.cell? ⟨g, 0, none⟩ = some (.int .i64 lv)) (hk1 : w.cell? ⟨g, 1, none⟩ = some (.bool rt)) (hr : Kd.C k94 w A l.length l) :
    Calls Try.prog 132 #[.slice A l.length c, .func (.func 104) #[] #[.pointer (some ⟨g, 0, none⟩)]] w fun e w' => (∃ r : Int, e = .returned (.int .i64 r) ∧ (0 ≤ r ↔ ∃ j, j < l.length ∧ climb_any.p lv rt (rd_T94 l (j : Nat)) = true)) ∧ Below w.heap.size w w' := by
  have hu0 := Try.underlying94
  have hbig : l.length ≤ 9223372036854775807 := hr.2.1
  have eg : ∀ args w, (callFunc 104 args).run Try.prog w = .ok (.enter 104 args) w := enters_of Try.func104 (by kernel_rfl) rfl
  have HR := Aside0.mk hr
  clear hr
  generalize hn : l.length = n at hbig
  go_enter Try.func132, Try.ntmps132
  go_wp2
  go_loopg [5, 8] n (fun gg _ s8 wr => ∃ kk : Nat, kk ≤ n ∧ n - kk ≤ gg ∧ s8 = .int .i64 kk ∧ Aside0 (Below w.heap.size w wr) ∧ Aside0 (∀ j, j < kk → climb_any.p lv rt (rd_T94 l (j : Nat)) = false))
  case atStart => exact ⟨0, Nat.zero_le _, by omega, rfl, ⟨by repeat (first | exact Below.refl _ _ | apply below_alloc | apply pw_below_drewN)⟩, ⟨fun j hj => absurd hj (Nat.not_lt_zero _)⟩⟩
  case round =>
    obtain ⟨kk, hkk, hg, rfl, HB, A0⟩ := hrel
    by_cases hlt : kk < n
    · have hltz : (kk : Int) < (n : Int) := by omega
      obtain ⟨ad, rfl, h0, h1⟩ := at_T94 HR.out (kk : Int) (by omega) (by omega)
      have hk2 := pw_cell_below HB.out hk
      have hk3 := pw_cell_below HB.out hk1
      rw [Int.toNat_natCast] at h0 h1
      replace h0 := pw_cell_below HB.out h0
      replace h1 := pw_cell_below HB.out h1
      have hcall0 := climb_any.lit lv rt (rd_T94 l (kk : Nat)).f0 (rd_T94 l (kk : Nat)).f1 g wr hk2 hk3
      have hcall := fun q => climb_any.lit lv rt (rd_T94 l (kk : Nat)).f0 (rd_T94 l (kk : Nat)).f1 g (wr.drewN q) hk2 hk3
      obtain ⟨b, off, lab⟩ := ad
      obtain ⟨pv, hpv⟩ : ∃ pv, climb_any.p lv rt (rd_T94 l (kk : Nat)) = pv := ⟨_, rfl⟩
      have hpv2 : climb_any.p lv rt ⟨(rd_T94 l (kk : Nat)).f0, (rd_T94 l (kk : Nat)).f1⟩ = pv := hpv
      simp only [hpv2] at hcall hcall0
      have hp9 := Aside0.mk hpv
      clear hpv hpv2
      clear hk2 hk3
      generalize (rd_T94 l (kk : Nat)).f1 = m at h1 hcall hcall0
      generalize (rd_T94 l (kk : Nat)).f0 = y at h0 hcall hcall0
      cases pv with
      | true =>
        go_wp2_with (go_at_fn 104; (first | refine hcall0.mono ?_ | refine (hcall _).mono ?_); rintro e w2 ⟨rfl, HB2⟩)
        go_ret
        exact ⟨⟨(kk : Int), rfl, ⟨fun _ => ⟨kk, hlt, hp9.out⟩, fun _ => by omega⟩⟩, by repeat (first | exact HB.out.trans (HB2.mono (below_size HB.out)) | exact (pw_below_drewN HB.out _).trans (HB2.mono (by exact below_size HB.out)) | apply below_alloc | apply pw_below_drewN)⟩
      | false =>
        go_wp2_with (go_at_fn 104; (first | refine hcall0.mono ?_ | refine (hcall _).mono ?_); rintro e w2 ⟨rfl, HB2⟩)
        go_roundg (n - (kk + 1))
        case measure => omega
        case rel =>
          refine ⟨kk + 1, by omega, by omega, by go_num, ⟨?_⟩, ⟨fun j hj => ?_⟩⟩
          · repeat (first | exact HB.out.trans (HB2.mono (below_size HB.out)) | exact (pw_below_drewN HB.out _).trans (HB2.mono (by exact below_size HB.out)) | apply below_alloc | apply pw_below_drewN)
          · by_cases e : j = kk
            · subst e; exact hp9.out
            · exact A0.out j (by omega)
    · have hltz : ¬ (kk : Int) < (n : Int) := by omega
      have : kk = n := by omega
      subst this
      go_wp2
      go_ret
      refine ⟨⟨-1, rfl, ⟨fun h => absurd h (by decide), fun ⟨j, hj, hj2⟩ => ?_⟩⟩, by repeat (first | exact HB.out | apply below_alloc | apply pw_below_drewN)⟩
      rw [A0.out j (by omega)] at hj2
      exact absurd hj2 (by decide)
set_option maxHeartbeats 2000000 in
theorem climb_any.calls (A0 : Option Addr) (c0 : Nat) (l0 : List S94) (g : Nat) (cs : Array Value) (lv : Int) (rt : Bool) (r : Bool) (w : World) (hr0 : Kd.C k94 w A0 l0.length l0) (hc0 : l0.length ≤ c0) (hB : w.heap[g]? = some (.cells cs 94 (0, 0))) (h1 : cs[0]? = some (.int .i64 lv)) (h2 : cs[1]? = some (.bool rt)) (h : climb_any.f l0 lv rt = some r) :
    Calls Try.prog 103 #[.slice A0 l0.length c0, .func (.func 104) #[] #[.pointer (some ⟨g, 0, none⟩)]] w fun e w' => e = .returned (.bool r) ∧ Below w.heap.size w w' := by
  have hk : w.cell? ⟨g, 0, none⟩ = some (.int .i64 lv) := (blk_cell hB 0).trans h1
  have hk1 : w.cell? ⟨g, 1, none⟩ = some (.bool rt) := (blk_cell hB 1).trans h2
  unfold climb_any.f at h
  have hr := Option.some.inj h
  have hb : r = true ↔ ∃ j, j < l0.length ∧ climb_any.p lv rt (rd_T94 l0 (j : Nat)) = true := by
    have e : ∀ j : Nat, rd_T94 l0 (j : Nat) = l0.getD j z94 := fun j => by simp [rd_T94]
    rw [← hr, List.any_eq_true]
    constructor
    · rintro ⟨x, hx, hx2⟩
      obtain ⟨j, hj, rfl⟩ := List.getElem_of_mem hx
      refine ⟨j, hj, ?_⟩
      rwa [e, List.getD_eq_getElem?_getD, List.getElem?_eq_getElem hj]
    · rintro ⟨j, hj, hj2⟩
      rw [e, List.getD_eq_getElem?_getD, List.getElem?_eq_getElem hj] at hj2
      exact ⟨_, List.getElem_mem hj, hj2⟩
  have hI0 := climb_any.idx lv rt g A0 c0 l0 w hk hk1 hr0
  have hI := fun q => climb_any.idx lv rt g A0 c0 l0 (w.drewN q) hk hk1 (Kd.C_drewN hr0 q)
  have hsz : ∀ q, (w.drewN q).heap.size = w.heap.size := fun q => by first | rfl | simp
  clear hr0 hr h hB h1 h2 hk hk1
  go_enter Try.func103, Try.ntmps103
  go_wp2_with (go_at_call 132; (first | refine hI0.mono ?_ | refine (hI _).mono ?_); rintro e w' ⟨⟨r1, rfl, hr1⟩, HB2⟩)
  go_ret
  refine ⟨?_, by repeat (first | exact HB2 | exact (pw_below_drewN (Below.refl _ w) _).trans HB2 | apply below_alloc | apply pw_below_drewN)⟩
  have : decide (0 ≤ r1) = r := by
    rw [Bool.eq_iff_iff, decide_eq_true_iff, hr1, hb]
  first | rw [this] | (subst this; rfl) | (simp [← this, hr1]; done)

mutual
def climb_wrong.j0 : Nat → List (S94) → List Int → Bool → Bool → Option (Int)
  | 0, _, _, _, _ => none
  | k + 1, x0, x1, x2, x18 => if x18 = true then (some 1) else (climb_wrong.l0 k x0 x1 x2 x0 (x0.length : Int) 0)
def climb_wrong.l0 : Nat → List (S94) → List Int → Bool → List (S94) → Int → Int → Option (Int)
  | 0, _, _, _, _, _, _ => none
  | k + 1, x0, x1, x2, x19, x20, x21 => if x21 < x20 then (if 0 ≤ x21 then (if x21 < (x19.length : Int) then (if x21 ≤ (x0.length : Int) then ((climb_any.f (x0.take (x21 : Int).toNat) ((rd_T94 x19 x21).f0) ((rd_T94 x19 x21).f1)).bind fun t107 => (if t107 = true then (some 3) else (climb_wrong.l0 k x0 x1 x2 x19 x20 (wrap64 (x21 + 1))))) else (none)) else (none)) else (none)) else (climb_wrong.l1 k x0 x2 x1 (x1.length : Int) 0)
def climb_wrong.l1 : Nat → List (S94) → Bool → List Int → Int → Int → Option (Int)
  | 0, _, _, _, _, _ => none
  | k + 1, x0, x2, x32, x33, x34 => if x34 < x33 then (if 0 ≤ x34 then (if x34 < (x32.length : Int) then (if (rd x32 x34) < 100 then (if (rd x32 x34) < (-2) then (some 2) else (if (rd x32 x34) ≥ (x0.length : Int) then (some 2) else (if (rd x32 x34) < 0 then (if x2 = true then (climb_wrong.l1 k x0 x2 x32 x33 (wrap64 (x34 + 1))) else (some 2)) else (climb_wrong.l1 k x0 x2 x32 x33 (wrap64 (x34 + 1)))))) else (climb_wrong.l1 k x0 x2 x32 x33 (wrap64 (x34 + 1)))) else (none)) else (none)) else (some 0)
end
def climb_wrong.f (k : Nat) (l0 : List (S94)) (l1 : List Int) (a2 : Bool) : Option (Int) := if (l0.length : Int) > 6 then (climb_wrong.j0 k l0 l1 a2 true) else (climb_wrong.j0 k l0 l1 a2 (decide ((l1.length : Int) > 60)))
theorem climb_wrong.mono_l : ∀ k, (∀ y0 y1 y2 y3, LeO (climb_wrong.j0 k y0 y1 y2 y3) (climb_wrong.j0 (k + 1) y0 y1 y2 y3)) ∧ (∀ y0 y1 y2 y3 y4 y5, LeO (climb_wrong.l0 k y0 y1 y2 y3 y4 y5) (climb_wrong.l0 (k + 1) y0 y1 y2 y3 y4 y5)) ∧ (∀ y0 y1 y2 y3 y4, LeO (climb_wrong.l1 k y0 y1 y2 y3 y4) (climb_wrong.l1 (k + 1) y0 y1 y2 y3 y4))
  | 0 => ⟨fun _ _ _ _ r h => by simp [climb_wrong.j0] at h, fun _ _ _ _ _ _ r h => by simp [climb_wrong.l0] at h, fun _ _ _ _ _ r h => by simp [climb_wrong.l1] at h⟩
  | k + 1 => by
    obtain ⟨ih0, ih1, ih2⟩ := climb_wrong.mono_l k
    refine ⟨?_, ?_, ?_⟩
    · intro y0 y1 y2 y3
      unfold climb_wrong.j0
      repeat' first
      | (with_reducible exact ih0 _ _ _ _)
      | (with_reducible exact ih1 _ _ _ _ _ _)
      | (with_reducible exact ih2 _ _ _ _ _)
      | (with_reducible exact LeO.refl _)
      | (with_reducible exact LeO.none _)
      | (with_reducible refine LeO.ite ?_ ?_)
      | (with_reducible refine LeO.bind ?_ (fun _ => ?_))
      | exact ih0 _ _ _ _
      | exact ih1 _ _ _ _ _ _
      | exact ih2 _ _ _ _ _
      | exact LeO.none _
      | refine LeO.ite ?_ ?_
      | refine LeO.bind ?_ (fun _ => ?_)
    · intro y0 y1 y2 y3 y4 y5
      unfold climb_wrong.l0
      repeat' first
      | (with_reducible exact ih0 _ _ _ _)
      | (with_reducible exact ih1 _ _ _ _ _ _)
      | (with_reducible exact ih2 _ _ _ _ _)
      | (with_reducible exact LeO.refl _)
      | (with_reducible exact LeO.none _)
      | (with_reducible refine LeO.ite ?_ ?_)
      | (with_reducible refine LeO.bind ?_ (fun _ => ?_))
      | exact ih0 _ _ _ _
      | exact ih1 _ _ _ _ _ _
      | exact ih2 _ _ _ _ _
      | exact LeO.none _
      | refine LeO.ite ?_ ?_
      | refine LeO.bind ?_ (fun _ => ?_)
    · intro y0 y1 y2 y3 y4
      unfold climb_wrong.l1
      repeat' first
      | (with_reducible exact ih0 _ _ _ _)
      | (with_reducible exact ih1 _ _ _ _ _ _)
      | (with_reducible exact ih2 _ _ _ _ _)
      | (with_reducible exact LeO.refl _)
      | (with_reducible exact LeO.none _)
      | (with_reducible refine LeO.ite ?_ ?_)
      | (with_reducible refine LeO.bind ?_ (fun _ => ?_))
      | exact ih0 _ _ _ _
      | exact ih1 _ _ _ _ _ _
      | exact ih2 _ _ _ _ _
      | exact LeO.none _
      | refine LeO.ite ?_ ?_
      | refine LeO.bind ?_ (fun _ => ?_)
theorem climb_wrong.mono : ∀ a0 a1 a2 k, LeO (climb_wrong.f k a0 a1 a2) (climb_wrong.f (k + 1) a0 a1 a2) := by
  intro a0 a1 a2 k
  obtain ⟨ih0, ih1, ih2⟩ := climb_wrong.mono_l k
  unfold climb_wrong.f
  repeat' first
      | (with_reducible exact ih0 _ _ _ _)
      | (with_reducible exact ih1 _ _ _ _ _ _)
      | (with_reducible exact ih2 _ _ _ _ _)
      | (with_reducible exact LeO.refl _)
      | (with_reducible exact LeO.none _)
      | (with_reducible refine LeO.ite ?_ ?_)
      | (with_reducible refine LeO.bind ?_ (fun _ => ?_))
      | exact ih0 _ _ _ _
      | exact ih1 _ _ _ _ _ _
      | exact ih2 _ _ _ _ _
      | exact LeO.none _
      | refine LeO.ite ?_ ?_
      | refine LeO.bind ?_ (fun _ => ?_)
set_option maxHeartbeats 8000000 in
set_option maxRecDepth 100000 in
theorem climb_wrong.calls (k : Nat) (A0 : Option Addr) (c0 : Nat) (l0 : List (S94)) (A1 : Option Addr) (c1 : Nat) (l1 : List Int) (a2 : Bool) (r : Int) (w : World) (hr0 : Kd.C k94 w A0 l0.length l0) (hc0 : l0.length ≤ c0) (hr1 : Kd.C (Kd.int .i64) w A1 l1.length l1) (hc1 : l1.length ≤ c1) (h : climb_wrong.f k l0 l1 a2 = some r) :
    Calls Try.prog 51 #[.slice A0 l0.length c0, .slice A1 l1.length c1, .bool a2] w fun e w' => e = .returned (.int .i64 r) ∧ Below w.heap.size w w' := by
  have hu94 := Try.underlying94
  have HR0 := Aside0.mk hr0
  have HC0 := Aside0.mk hc0
  clear hr0 hc0
  have HR1 := Aside0.mk hr1
  have HC1 := Aside0.mk hc1
  clear hr1 hc1
  have HB := Aside0.mk (Below.refl w.heap.size w)
  have H : (if (l0.length : Int) > 6 then (climb_wrong.j0 k l0 l1 a2 true) else (climb_wrong.j0 k l0 l1 a2 (decide ((l1.length : Int) > 60)))) = some r := h
  clear h
  have HC4 := Aside0.mk H
  clear H
  go_enter Try.func51, Try.ntmps51
  go_upto_region 1 with (fail)
  go_cut [18] (fun v18 wc => ∃ (kq : Nat) (x18_3 : Bool), v18 = .bool x18_3 ∧ Aside0 (climb_wrong.j0 kq l0 l1 a2 x18_3 = some r) ∧ Aside0 (kq ≤ k) ∧ Aside0 (Below w.heap.size w wc))
  case first =>
    have H := HC4.out
    clear HC4
    by_cases c5 : (l0.length : Int) > 6
    · rw [if_pos c5] at H
      have c5b0 : decide (6 < (l0.length : Int)) = true := decide_eq_true c5
      have c5b1 : decide (6 < l0.length) = true := decide_eq_true (by omega)
      clear c5
      (first | rw [c5b0] | (simp only [i64_w, i32_w]; rw [c5b0]) | skip)
      have H' := Aside0.mk H
      clear H
      go_wp2
      go_meet
      case rel => exact ⟨_, (true), (by first | rfl | (simp; done) | (simp [*]; done)), H', ⟨by first | omega | exact Nat.le_refl _⟩, ⟨by repeat (first | (with_reducible first | exact HB.out | apply below_alloc | apply pw_below_drewN | apply below_drew1) | exact HB.out)⟩⟩
    · rw [if_neg c5] at H
      have c5b0 : decide (6 < (l0.length : Int)) = false := decide_eq_false c5
      have c5b1 : decide (6 < l0.length) = false := decide_eq_false (by omega)
      clear c5
      (first | rw [c5b0] | (simp only [i64_w, i32_w]; rw [c5b0]) | skip)
      have H' := Aside0.mk H
      clear H
      go_wp2
      go_meet
      case rel => exact ⟨_, (decide ((l1.length : Int) > 60)), (by first | rfl | (simp; done) | (simp [*]; done)), H', ⟨by first | omega | exact Nat.le_refl _⟩, ⟨by repeat (first | (with_reducible first | exact HB.out | apply below_alloc | apply pw_below_drewN | apply below_drew1) | exact HB.out)⟩⟩
  case rest =>
    clear HC4
    try clear c1
    try clear p2
    try clear c5
    try clear c5b0
    try clear c5b1
    obtain ⟨kq, x18_3, rfl, HA, HJ3, HB⟩ := hcut
    cases kq with
    | zero => exact absurd HA.out (by simp [climb_wrong.j0])
    | succ kj3 =>
      have H := HA.out
      clear HA
      simp only [climb_wrong.j0] at H
      by_cases c6 : x18_3 = true
      · subst c6
        have H1 : (some 1) = some r := by rw [if_pos rfl] at H; exact H
        clear H
        have H := H1
        clear H1
        obtain rfl := Option.some.inj H
        go_wp2
        go_ret
        exact ⟨by first | rfl | (simp [errW_none, errW_some] <;> rfl) | (simp [*, errW_none, errW_some] <;> rfl), by repeat (first | (with_reducible first | exact HB.out | apply below_alloc | apply pw_below_drewN | apply below_drew1) | exact HB.out)⟩
      · replace c6 := Bool.eq_false_iff.mpr c6
        subst c6
        have H1 : (climb_wrong.l0 kj3 l0 l1 a2 l0 (l0.length : Int) 0) = some r := by rw [if_neg (show ¬ (false = true) by decide)] at H; exact H
        clear H
        have H := H1
        clear H1
        have H' := Aside0.mk H
        clear H
        go_wp2
        go_loopg [21] kj3 (fun kq v21 w' => ∃ (x21_2 : Int), v21 = .int .i64 x21_2 ∧ Aside0 (climb_wrong.l0 kq l0 l1 a2 l0 (l0.length : Int) x21_2 = some r) ∧ Aside0 (kq ≤ kj3) ∧ Aside0 (Below w.heap.size w w'))
        case atStart => exact ⟨(0), (by first | rfl | (simp; done) | (simp [*]; done)), H', ⟨Nat.le_refl _⟩, ⟨by repeat (first | (with_reducible first | exact HB.out | apply below_alloc | apply pw_below_drewN | apply below_drew1) | exact HB.out)⟩⟩
        case round =>
          clear H'
          try clear c1
          try clear p2
          try clear c5
          try clear c5b0
          try clear c5b1
          try clear c6
          try clear p2
          obtain ⟨x21_2, rfl, HA, HK2, HB⟩ := hrel
          cases gk with
          | zero => exact absurd HA.out (by simp [climb_wrong.l0])
          | succ k2 =>
            have H := HA.out
            clear HA
            simp only [climb_wrong.l0] at H
            by_cases c7 : x21_2 < (l0.length : Int)
            · rw [if_pos c7] at H
              have c7b0 : decide (x21_2 < (l0.length : Int)) = true := decide_eq_true c7
              clear c7
              by_cases c8 : 0 ≤ x21_2
              · rw [if_pos c8] at H
                have c8b0 : decide (0 ≤ x21_2) = true := decide_eq_true c8
                clear c8
                by_cases c9 : x21_2 < (l0.length : Int)
                · rw [if_pos c9] at H
                  have c9b0 : decide (x21_2 < (l0.length : Int)) = true := decide_eq_true c9
                  clear c9
                  have c10b0 := eq_true (of_decide_eq_true (by first | (with_reducible assumption) | assumption) : 0 ≤ x21_2)
                  by_cases c11 : x21_2 ≤ (l0.length : Int)
                  · rw [if_pos c11] at H
                    have c11b0 := eq_true c11
                    have c11b1 : decide (x21_2 ≤ (l0.length : Int)) = true := decide_eq_true c11
                    clear c11
                    obtain ⟨y103, hy103⟩ : ∃ y_ : List (S94), y_ = (l0.take (x21_2 : Int).toNat) := ⟨_, rfl⟩
                    replace H : ((climb_any.f y103 ((rd_T94 l0 x21_2).f0) ((rd_T94 l0 x21_2).f1)).bind fun t107 => (if t107 = true then (some 3) else (climb_wrong.l0 k2 l0 l1 a2 l0 (l0.length : Int) (wrap64 (x21_2 + 1))))) = some r := by first | (rw [hy103]; with_reducible exact H) | (have H2_ := (Option.bind_some _ _).symm.trans H; rw [hy103]; with_reducible exact H2_) | (have H2_ := (Option.bind_some _ _).symm.trans H; with_reducible exact H2_) | with_reducible exact H | (rw [hy103]; exact H) | exact H
                    have Ny103 := Aside0.mk hy103
                    clear hy103
                    replace H := Option.bind_eq_some_iff.mp H
                    obtain ⟨t107, A120, H⟩ := H
                    replace H : (if t107 = true then (some 3) else (climb_wrong.l0 k2 l0 l1 a2 l0 (l0.length : Int) (wrap64 (x21_2 + 1)))) = some r := H
                    have A12 := Aside0.mk A120
                    clear A120
                    by_cases c13 : t107 = true
                    · subst c13
                      have H1 : (some 3) = some r := by rw [if_pos rfl] at H; exact H
                      clear H
                      have H := H1
                      clear H1
                      obtain rfl := Option.some.inj H
                      have p101 : 0 ≤ (x21_2 : Int) := of_decide_eq_true (by first | (with_reducible assumption) | assumption)
                      have q101 : x21_2 < (l0.length : Int) := of_decide_eq_true (by first | (with_reducible assumption) | assumption)
                      obtain ⟨ad101, e101, hx101_0, hx101_1⟩ := at_T94 HR0.out x21_2 p101 q101
                      cases e101
                      replace hx101_0 := (HB.out.cell (World.block_lt_of_cell? w _ hx101_0)).trans hx101_0
                      replace hx101_1 := (HB.out.cell (World.block_lt_of_cell? w _ hx101_1)).trans hx101_1
                      replace p101 := eq_true p101
                      replace q101 := eq_true q101
                      go_wp2_with (first | ((with_reducible refine gate_dst (N := 8) rfl ?_); (try (refine gate_guard (by rfl) ?_; dsimp only)); refine box_event ?hg (N := 8) ?hd (cs := #[.int .i64 0, .bool false]) (t := 94) ?hr ?_; (case hd => rfl); (case hg => rfl); (case hr => first | (go_simp; done) | (go_simp; rfl)); intro gb102 hg w14 hbox hb; have n0_ := Aside0.mk (below_step (by repeat (first | (with_reducible first | exact HB.out | apply below_alloc | apply pw_below_drewN | apply below_drew1) | exact HB.out)) hb); have n1_ := Aside0.mk (hbox); have n2_ := Aside0.mk ((by rw [hg]; exact (below_size (by repeat (first | (with_reducible first | exact HB.out | apply below_alloc | apply pw_below_drewN | apply below_drew1) | exact HB.out))) : w.heap.size ≤ gb102)); have n3_ := Aside0.mk ((by rw [hg]; exact (below_size (by repeat (first | (with_reducible first | exact HB.out | apply below_alloc | apply pw_below_drewN | apply below_drew1) | exact HB.out))) : w.heap.size ≤ gb102)); clear HB; have HB := n0_; have BK102 := n1_; have GW102 := n2_; have GE102 := n3_; clear n0_ n1_ n2_ n3_; clear hb hbox hg; have hcz15_0 : w14.cell? ⟨gb102, 0, none⟩ = some (.int .i64 0) := (blk_cell BK102.out 0).trans rfl; have hcz15_1 : w14.cell? ⟨gb102, 1, none⟩ = some (.bool false) := (blk_cell BK102.out 1).trans rfl; have hfz15_0 := blk_frozen BK102.out 0; have hfz15_1 := blk_frozen BK102.out 1) | ((with_reducible refine gate_store (t := 94) (p := 8) rfl ?_); refine store_event (t := 94) (p := 8) (v := ?vo_w16) (w1 := ((w14.setCell ⟨gb102, 0, none⟩ (.int .i64 ((rd_T94 l0 x21_2).f0))).setCell ⟨gb102, 1, none⟩ (.bool ((rd_T94 l0 x21_2).f1)))) ?hg ?ho ?hn ?hr ?_; (case ho => rfl); (case hg => rfl); (case hn => rfl); (case hr => first | (go_simp; done) | (go_simp; rfl)); intro w16 hw; have n0_ : Aside0 (w16.heap[gb102]? = some (.cells #[.int .i64 ((rd_T94 l0 x21_2).f0), .bool ((rd_T94 l0 x21_2).f1)] 94 (0, 0))) := ⟨(by rw [hw]; exact (by (with_reducible repeat (first | refine blk_drewN ?_ _ | refine blk_drew ?_ | refine blk_alloc ?_ _)); refine blk_put (cs := #[.int .i64 ((rd_T94 l0 x21_2).f0), .bool false]) ?_ 1 _ rfl; (with_reducible repeat (first | refine blk_drewN ?_ _ | refine blk_drew ?_ | refine blk_alloc ?_ _)); refine blk_put (cs := #[.int .i64 0, .bool false]) ?_ 0 _ rfl; (with_reducible repeat (first | refine blk_drewN ?_ _ | refine blk_drew ?_ | refine blk_alloc ?_ _)); exact BK102.out))⟩; have n1_ : Aside0 (Below w.heap.size w w16) := ⟨(by rw [hw]; exact (by repeat (first | (with_reducible first | exact HB.out | apply below_alloc | apply pw_below_drewN | apply below_drew1 | refine below_set ?_ GE102.out) | exact HB.out)))⟩; clear hw; clear BK102; clear HB; have BK102 := n0_; have HB := n1_; clear n0_ n1_; have q17 : (x21_2 : Int) ≤ ((l0.length : Int) : Int) := of_decide_eq_true (by first | (with_reducible assumption) | assumption); obtain ⟨i017, hi017, _, hsz17, _⟩ := info_parts info94; have hroom17 : l0.length ≤ c0 := HC0.out; have hC17 : Kd.C k94 _ (some ad101) l0.length l0 := HR0.out; have hcut17 := cut_to (P := Try.prog) 22 94 .i64 Try.underlying22 hi017 (some ad101) l0.length c0 x21_2 (of_decide_eq_true (by first | (with_reducible assumption) | assumption)) q17 hroom17; have hr17 := Kd.C_take (m := (x21_2 : Int).toNat) hC17 (by omega); have hy17 : y103.length = (x21_2 : Int).toNat := (by rw [Ny103.out, List.length_take]; omega); rw [← Ny103.out] at hr17; rw [← hy17] at hcut17; have HR106 := Aside0.mk hr17; have HC106 := Aside0.mk (show y103.length ≤ c0 from by omega); clear hr17 hC17 hroom17 hi017 hsz17; have KY17 := Aside0.mk hy17; clear hy17; replace q17 := eq_true q17) | ((with_reducible refine gate_callee (f := 103) rfl ?_); refine goesL_ (some 30) rfl rfl Try.func103 (by kernel_rfl) rfl #[.slice (some ad101) y103.length c0, .func (.func 104) #[] #[.pointer (some ⟨gb102, 0, none⟩)]] rfl (by (try simp only [List.map_toArray, List.map_cons, List.map_nil]); first | done | rfl | (simp only [List.length_drop, List.length_take]; rfl)) ?_; (with_reducible refine (climb_any.calls _ _ y103 gb102 #[.int .i64 ((rd_T94 l0 x21_2).f0), .bool ((rd_T94 l0 x21_2).f1)] ((rd_T94 l0 x21_2).f0) ((rd_T94 l0 x21_2).f1) true _ ?side1 ?side2 ?side3 ?side4 ?side5 A12.out).mono ?_); (case side1 => repeat (first | exact (Kd.C_below HR106.out HB.out) | (with_reducible refine Kd.C_alloc ?_ _) | (with_reducible refine Kd.C_drewN ?_ _) | (with_reducible refine Kd.C_drew ?_))); (case side2 => exact HC106.out); (case side3 => exact by (with_reducible repeat (first | refine blk_drewN ?_ _ | refine blk_drew ?_ | refine blk_alloc ?_ _)); exact BK102.out); (case side4 => rfl); (case side5 => rfl); rintro e w18 ⟨rfl, hb⟩; refine ⟨_, rfl, ?_⟩; have n0_ := Aside0.mk (blk_below (g := gb102) (o := .cells #[.int .i64 ((rd_T94 l0 x21_2).f0), .bool ((rd_T94 l0 x21_2).f1)] 94 (0, 0)) (by (with_reducible repeat (first | refine blk_drewN ?_ _ | refine blk_drew ?_ | refine blk_alloc ?_ _)); exact BK102.out) hb); have n1_ := Aside0.mk (below_step (by repeat (first | (with_reducible first | exact HB.out | apply below_alloc | apply pw_below_drewN | apply below_drew1 | refine below_set ?_ GE102.out) | exact HB.out)) hb); clear BK102; clear HB; have BK102 := n0_; have HB := n1_; clear n0_ n1_; (try clear hb); (try clear hb2); (try clear hk); (try clear hi)))
                      go_ret
                      exact ⟨by first | rfl | (simp [errW_none, errW_some] <;> rfl) | (simp [*, errW_none, errW_some] <;> rfl), by repeat (first | (with_reducible first | exact HB.out | apply below_alloc | apply pw_below_drewN | apply below_drew1 | refine below_set ?_ GE102.out) | exact HB.out)⟩
                    · replace c13 := Bool.eq_false_iff.mpr c13
                      subst c13
                      have H1 : (climb_wrong.l0 k2 l0 l1 a2 l0 (l0.length : Int) (wrap64 (x21_2 + 1))) = some r := by rw [if_neg (show ¬ (false = true) by decide)] at H; exact H
                      clear H
                      have H := H1
                      clear H1
                      have H' := Aside0.mk H
                      clear H
                      have p101 : 0 ≤ (x21_2 : Int) := of_decide_eq_true (by first | (with_reducible assumption) | assumption)
                      have q101 : x21_2 < (l0.length : Int) := of_decide_eq_true (by first | (with_reducible assumption) | assumption)
                      obtain ⟨ad101, e101, hx101_0, hx101_1⟩ := at_T94 HR0.out x21_2 p101 q101
                      cases e101
                      replace hx101_0 := (HB.out.cell (World.block_lt_of_cell? w _ hx101_0)).trans hx101_0
                      replace hx101_1 := (HB.out.cell (World.block_lt_of_cell? w _ hx101_1)).trans hx101_1
                      replace p101 := eq_true p101
                      replace q101 := eq_true q101
                      go_wp2_with (first | ((with_reducible refine gate_dst (N := 8) rfl ?_); (try (refine gate_guard (by rfl) ?_; dsimp only)); refine box_event ?hg (N := 8) ?hd (cs := #[.int .i64 0, .bool false]) (t := 94) ?hr ?_; (case hd => rfl); (case hg => rfl); (case hr => first | (go_simp; done) | (go_simp; rfl)); intro gb102 hg w19 hbox hb; have n0_ := Aside0.mk (below_step (by repeat (first | (with_reducible first | exact HB.out | apply below_alloc | apply pw_below_drewN | apply below_drew1) | exact HB.out)) hb); have n1_ := Aside0.mk (hbox); have n2_ := Aside0.mk ((by rw [hg]; exact (below_size (by repeat (first | (with_reducible first | exact HB.out | apply below_alloc | apply pw_below_drewN | apply below_drew1) | exact HB.out))) : w.heap.size ≤ gb102)); have n3_ := Aside0.mk ((by rw [hg]; exact (below_size (by repeat (first | (with_reducible first | exact HB.out | apply below_alloc | apply pw_below_drewN | apply below_drew1) | exact HB.out))) : w.heap.size ≤ gb102)); clear HB; have HB := n0_; have BK102 := n1_; have GW102 := n2_; have GE102 := n3_; clear n0_ n1_ n2_ n3_; clear hb hbox hg; have hcz20_0 : w19.cell? ⟨gb102, 0, none⟩ = some (.int .i64 0) := (blk_cell BK102.out 0).trans rfl; have hcz20_1 : w19.cell? ⟨gb102, 1, none⟩ = some (.bool false) := (blk_cell BK102.out 1).trans rfl; have hfz20_0 := blk_frozen BK102.out 0; have hfz20_1 := blk_frozen BK102.out 1) | ((with_reducible refine gate_store (t := 94) (p := 8) rfl ?_); refine store_event (t := 94) (p := 8) (v := ?vo_w21) (w1 := ((w19.setCell ⟨gb102, 0, none⟩ (.int .i64 ((rd_T94 l0 x21_2).f0))).setCell ⟨gb102, 1, none⟩ (.bool ((rd_T94 l0 x21_2).f1)))) ?hg ?ho ?hn ?hr ?_; (case ho => rfl); (case hg => rfl); (case hn => rfl); (case hr => first | (go_simp; done) | (go_simp; rfl)); intro w21 hw; have n0_ : Aside0 (w21.heap[gb102]? = some (.cells #[.int .i64 ((rd_T94 l0 x21_2).f0), .bool ((rd_T94 l0 x21_2).f1)] 94 (0, 0))) := ⟨(by rw [hw]; exact (by (with_reducible repeat (first | refine blk_drewN ?_ _ | refine blk_drew ?_ | refine blk_alloc ?_ _)); refine blk_put (cs := #[.int .i64 ((rd_T94 l0 x21_2).f0), .bool false]) ?_ 1 _ rfl; (with_reducible repeat (first | refine blk_drewN ?_ _ | refine blk_drew ?_ | refine blk_alloc ?_ _)); refine blk_put (cs := #[.int .i64 0, .bool false]) ?_ 0 _ rfl; (with_reducible repeat (first | refine blk_drewN ?_ _ | refine blk_drew ?_ | refine blk_alloc ?_ _)); exact BK102.out))⟩; have n1_ : Aside0 (Below w.heap.size w w21) := ⟨(by rw [hw]; exact (by repeat (first | (with_reducible first | exact HB.out | apply below_alloc | apply pw_below_drewN | apply below_drew1 | refine below_set ?_ GE102.out) | exact HB.out)))⟩; clear hw; clear BK102; clear HB; have BK102 := n0_; have HB := n1_; clear n0_ n1_; have q22 : (x21_2 : Int) ≤ ((l0.length : Int) : Int) := of_decide_eq_true (by first | (with_reducible assumption) | assumption); obtain ⟨i022, hi022, _, hsz22, _⟩ := info_parts info94; have hroom22 : l0.length ≤ c0 := HC0.out; have hC22 : Kd.C k94 _ (some ad101) l0.length l0 := HR0.out; have hcut22 := cut_to (P := Try.prog) 22 94 .i64 Try.underlying22 hi022 (some ad101) l0.length c0 x21_2 (of_decide_eq_true (by first | (with_reducible assumption) | assumption)) q22 hroom22; have hr22 := Kd.C_take (m := (x21_2 : Int).toNat) hC22 (by omega); have hy22 : y103.length = (x21_2 : Int).toNat := (by rw [Ny103.out, List.length_take]; omega); rw [← Ny103.out] at hr22; rw [← hy22] at hcut22; have HR106 := Aside0.mk hr22; have HC106 := Aside0.mk (show y103.length ≤ c0 from by omega); clear hr22 hC22 hroom22 hi022 hsz22; have KY22 := Aside0.mk hy22; clear hy22; replace q22 := eq_true q22) | ((with_reducible refine gate_callee (f := 103) rfl ?_); refine goesL_ (some 30) rfl rfl Try.func103 (by kernel_rfl) rfl #[.slice (some ad101) y103.length c0, .func (.func 104) #[] #[.pointer (some ⟨gb102, 0, none⟩)]] rfl (by (try simp only [List.map_toArray, List.map_cons, List.map_nil]); first | done | rfl | (simp only [List.length_drop, List.length_take]; rfl)) ?_; (with_reducible refine (climb_any.calls _ _ y103 gb102 #[.int .i64 ((rd_T94 l0 x21_2).f0), .bool ((rd_T94 l0 x21_2).f1)] ((rd_T94 l0 x21_2).f0) ((rd_T94 l0 x21_2).f1) false _ ?side1 ?side2 ?side3 ?side4 ?side5 A12.out).mono ?_); (case side1 => repeat (first | exact (Kd.C_below HR106.out HB.out) | (with_reducible refine Kd.C_alloc ?_ _) | (with_reducible refine Kd.C_drewN ?_ _) | (with_reducible refine Kd.C_drew ?_))); (case side2 => exact HC106.out); (case side3 => exact by (with_reducible repeat (first | refine blk_drewN ?_ _ | refine blk_drew ?_ | refine blk_alloc ?_ _)); exact BK102.out); (case side4 => rfl); (case side5 => rfl); rintro e w23 ⟨rfl, hb⟩; refine ⟨_, rfl, ?_⟩; have n0_ := Aside0.mk (blk_below (g := gb102) (o := .cells #[.int .i64 ((rd_T94 l0 x21_2).f0), .bool ((rd_T94 l0 x21_2).f1)] 94 (0, 0)) (by (with_reducible repeat (first | refine blk_drewN ?_ _ | refine blk_drew ?_ | refine blk_alloc ?_ _)); exact BK102.out) hb); have n1_ := Aside0.mk (below_step (by repeat (first | (with_reducible first | exact HB.out | apply below_alloc | apply pw_below_drewN | apply below_drew1 | refine below_set ?_ GE102.out) | exact HB.out)) hb); clear BK102; clear HB; have BK102 := n0_; have HB := n1_; clear n0_ n1_; (try clear hb); (try clear hb2); (try clear hk); (try clear hi)))
                      go_roundg k2
                      case measure => have := HJ3.out; have := HK2.out; omega
                      case rel => exact ⟨(wrap64 (x21_2 + 1)), (by first | rfl | (simp; done) | (simp [*]; done)), H', ⟨by have := HJ3.out; have := HK2.out; omega⟩, ⟨by repeat (first | (with_reducible first | exact HB.out | apply below_alloc | apply pw_below_drewN | apply below_drew1 | refine below_set ?_ GE102.out) | exact HB.out)⟩⟩
                  · rw [if_neg c11] at H
                    exact absurd H (by simp)
                · rw [if_neg c9] at H
                  exact absurd H (by simp)
              · rw [if_neg c8] at H
                exact absurd H (by simp)
            · rw [if_neg c7] at H
              have c7b0 : decide (x21_2 < (l0.length : Int)) = false := decide_eq_false c7
              clear c7
              have H' := Aside0.mk H
              clear H
              go_wp2
              go_loopg [34] k2 (fun kq v34 w' => ∃ (x34_3 : Int), v34 = .int .i64 x34_3 ∧ Aside0 (climb_wrong.l1 kq l0 a2 l1 (l1.length : Int) x34_3 = some r) ∧ Aside0 (kq ≤ k2) ∧ Aside0 (Below w.heap.size w w'))
              case atStart => exact ⟨(0), (by first | rfl | (simp; done) | (simp [*]; done)), H', ⟨Nat.le_refl _⟩, ⟨by repeat (first | (with_reducible first | exact HB.out | apply below_alloc | apply pw_below_drewN | apply below_drew1) | exact HB.out)⟩⟩
              case round =>
                clear H'
                try clear c1
                try clear p1
                try clear q1
                try clear hx1
                try clear p2
                try clear q2
                try clear c5
                try clear c5b0
                try clear c5b1
                try clear c6
                try clear p6
                try clear c7
                try clear c7b0
                try clear c8
                try clear c8b0
                try clear c9
                try clear c9b0
                try clear c10
                try clear c10b0
                try clear p10
                try clear q10
                try clear hx10
                try clear c11
                try clear c11b0
                try clear c11b1
                try clear c13
                try clear q17
                try clear q22
                try clear hcz15_0
                try clear hcz15_1
                try clear hcz20_0
                try clear hcz20_1
                try clear hfz15_0
                try clear hfz15_1
                try clear hfz20_0
                try clear hfz20_1
                try clear hx101_0
                try clear hx101_1
                try clear p101
                try clear p2
                try clear q101
                try clear q17
                try clear q22
                obtain ⟨x34_3, rfl, HA, HK3, HB⟩ := hrel
                cases gk with
                | zero => exact absurd HA.out (by simp [climb_wrong.l1])
                | succ k3 =>
                  have H := HA.out
                  clear HA
                  simp only [climb_wrong.l1] at H
                  by_cases c24 : x34_3 < (l1.length : Int)
                  · rw [if_pos c24] at H
                    have c24b0 : decide (x34_3 < (l1.length : Int)) = true := decide_eq_true c24
                    clear c24
                    by_cases c25 : 0 ≤ x34_3
                    · rw [if_pos c25] at H
                      have c25b0 : decide (0 ≤ x34_3) = true := decide_eq_true c25
                      clear c25
                      by_cases c26 : x34_3 < (l1.length : Int)
                      · rw [if_pos c26] at H
                        have c26b0 : decide (x34_3 < (l1.length : Int)) = true := decide_eq_true c26
                        clear c26
                        by_cases c27 : (rd l1 x34_3) < 100
                        · rw [if_pos c27] at H
                          have c27b0 : decide ((rd l1 x34_3) < 100) = true := decide_eq_true c27
                          clear c27
                          by_cases c28 : (rd l1 x34_3) < (-2)
                          · rw [if_pos c28] at H
                            have c28b0 : decide ((rd l1 x34_3) < (-2)) = true := decide_eq_true c28
                            clear c28
                            obtain rfl := Option.some.inj H
                            have p108 : 0 ≤ (x34_3 : Int) := of_decide_eq_true (by first | (with_reducible assumption) | assumption)
                            have q108 : x34_3 < (l1.length : Int) := of_decide_eq_true (by first | (with_reducible assumption) | assumption)
                            obtain ⟨ad108, e108, hx108_0⟩ := Kd.at_int HR1.out x34_3 p108 q108
                            cases e108
                            replace hx108_0 := (HB.out.cell (World.block_lt_of_cell? w _ hx108_0)).trans hx108_0
                            replace p108 := eq_true p108
                            replace q108 := eq_true q108
                            go_wp2
                            go_ret
                            exact ⟨by first | rfl | (simp [errW_none, errW_some] <;> rfl) | (simp [*, errW_none, errW_some] <;> rfl), by repeat (first | (with_reducible first | exact HB.out | apply below_alloc | apply pw_below_drewN | apply below_drew1) | exact HB.out)⟩
                          · rw [if_neg c28] at H
                            have c28b0 : decide ((rd l1 x34_3) < (-2)) = false := decide_eq_false c28
                            clear c28
                            by_cases c29 : (rd l1 x34_3) ≥ (l0.length : Int)
                            · rw [if_pos c29] at H
                              have c29b0 : decide ((l0.length : Int) ≤ (rd l1 x34_3)) = true := decide_eq_true c29
                              clear c29
                              obtain rfl := Option.some.inj H
                              have p108 : 0 ≤ (x34_3 : Int) := of_decide_eq_true (by first | (with_reducible assumption) | assumption)
                              have q108 : x34_3 < (l1.length : Int) := of_decide_eq_true (by first | (with_reducible assumption) | assumption)
                              obtain ⟨ad108, e108, hx108_0⟩ := Kd.at_int HR1.out x34_3 p108 q108
                              cases e108
                              replace hx108_0 := (HB.out.cell (World.block_lt_of_cell? w _ hx108_0)).trans hx108_0
                              replace p108 := eq_true p108
                              replace q108 := eq_true q108
                              go_wp2
                              go_ret
                              exact ⟨by first | rfl | (simp [errW_none, errW_some] <;> rfl) | (simp [*, errW_none, errW_some] <;> rfl), by repeat (first | (with_reducible first | exact HB.out | apply below_alloc | apply pw_below_drewN | apply below_drew1) | exact HB.out)⟩
                            · rw [if_neg c29] at H
                              have c29b0 : decide ((l0.length : Int) ≤ (rd l1 x34_3)) = false := decide_eq_false c29
                              clear c29
                              by_cases c30 : (rd l1 x34_3) < 0
                              · rw [if_pos c30] at H
                                have c30b0 : decide ((rd l1 x34_3) < 0) = true := decide_eq_true c30
                                clear c30
                                by_cases c31 : a2 = true
                                · subst c31
                                  have H1 : (climb_wrong.l1 k3 l0 true l1 (l1.length : Int) (wrap64 (x34_3 + 1))) = some r := by rw [if_pos rfl] at H; exact H
                                  clear H
                                  have H := H1
                                  clear H1
                                  have H' := Aside0.mk H
                                  clear H
                                  have p108 : 0 ≤ (x34_3 : Int) := of_decide_eq_true (by first | (with_reducible assumption) | assumption)
                                  have q108 : x34_3 < (l1.length : Int) := of_decide_eq_true (by first | (with_reducible assumption) | assumption)
                                  obtain ⟨ad108, e108, hx108_0⟩ := Kd.at_int HR1.out x34_3 p108 q108
                                  cases e108
                                  replace hx108_0 := (HB.out.cell (World.block_lt_of_cell? w _ hx108_0)).trans hx108_0
                                  replace p108 := eq_true p108
                                  replace q108 := eq_true q108
                                  go_wp2
                                  go_roundg k3
                                  case measure => have := HJ3.out; have := HK2.out; have := HK3.out; omega
                                  case rel => exact ⟨(wrap64 (x34_3 + 1)), (by first | rfl | (simp; done) | (simp [*]; done)), H', ⟨by have := HJ3.out; have := HK2.out; have := HK3.out; omega⟩, ⟨by repeat (first | (with_reducible first | exact HB.out | apply below_alloc | apply pw_below_drewN | apply below_drew1) | exact HB.out)⟩⟩
                                · replace c31 := Bool.eq_false_iff.mpr c31
                                  subst c31
                                  have H1 : (some 2) = some r := by rw [if_neg (show ¬ (false = true) by decide)] at H; exact H
                                  clear H
                                  have H := H1
                                  clear H1
                                  obtain rfl := Option.some.inj H
                                  have p108 : 0 ≤ (x34_3 : Int) := of_decide_eq_true (by first | (with_reducible assumption) | assumption)
                                  have q108 : x34_3 < (l1.length : Int) := of_decide_eq_true (by first | (with_reducible assumption) | assumption)
                                  obtain ⟨ad108, e108, hx108_0⟩ := Kd.at_int HR1.out x34_3 p108 q108
                                  cases e108
                                  replace hx108_0 := (HB.out.cell (World.block_lt_of_cell? w _ hx108_0)).trans hx108_0
                                  replace p108 := eq_true p108
                                  replace q108 := eq_true q108
                                  go_wp2
                                  go_ret
                                  exact ⟨by first | rfl | (simp [errW_none, errW_some] <;> rfl) | (simp [*, errW_none, errW_some] <;> rfl), by repeat (first | (with_reducible first | exact HB.out | apply below_alloc | apply pw_below_drewN | apply below_drew1) | exact HB.out)⟩
                              · rw [if_neg c30] at H
                                have c30b0 : decide ((rd l1 x34_3) < 0) = false := decide_eq_false c30
                                clear c30
                                have H' := Aside0.mk H
                                clear H
                                have p108 : 0 ≤ (x34_3 : Int) := of_decide_eq_true (by first | (with_reducible assumption) | assumption)
                                have q108 : x34_3 < (l1.length : Int) := of_decide_eq_true (by first | (with_reducible assumption) | assumption)
                                obtain ⟨ad108, e108, hx108_0⟩ := Kd.at_int HR1.out x34_3 p108 q108
                                cases e108
                                replace hx108_0 := (HB.out.cell (World.block_lt_of_cell? w _ hx108_0)).trans hx108_0
                                replace p108 := eq_true p108
                                replace q108 := eq_true q108
                                go_wp2
                                go_roundg k3
                                case measure => have := HJ3.out; have := HK2.out; have := HK3.out; omega
                                case rel => exact ⟨(wrap64 (x34_3 + 1)), (by first | rfl | (simp; done) | (simp [*]; done)), H', ⟨by have := HJ3.out; have := HK2.out; have := HK3.out; omega⟩, ⟨by repeat (first | (with_reducible first | exact HB.out | apply below_alloc | apply pw_below_drewN | apply below_drew1) | exact HB.out)⟩⟩
                        · rw [if_neg c27] at H
                          have c27b0 : decide ((rd l1 x34_3) < 100) = false := decide_eq_false c27
                          clear c27
                          have H' := Aside0.mk H
                          clear H
                          have p108 : 0 ≤ (x34_3 : Int) := of_decide_eq_true (by first | (with_reducible assumption) | assumption)
                          have q108 : x34_3 < (l1.length : Int) := of_decide_eq_true (by first | (with_reducible assumption) | assumption)
                          obtain ⟨ad108, e108, hx108_0⟩ := Kd.at_int HR1.out x34_3 p108 q108
                          cases e108
                          replace hx108_0 := (HB.out.cell (World.block_lt_of_cell? w _ hx108_0)).trans hx108_0
                          replace p108 := eq_true p108
                          replace q108 := eq_true q108
                          go_wp2
                          go_roundg k3
                          case measure => have := HJ3.out; have := HK2.out; have := HK3.out; omega
                          case rel => exact ⟨(wrap64 (x34_3 + 1)), (by first | rfl | (simp; done) | (simp [*]; done)), H', ⟨by have := HJ3.out; have := HK2.out; have := HK3.out; omega⟩, ⟨by repeat (first | (with_reducible first | exact HB.out | apply below_alloc | apply pw_below_drewN | apply below_drew1) | exact HB.out)⟩⟩
                      · rw [if_neg c26] at H
                        exact absurd H (by simp)
                    · rw [if_neg c25] at H
                      exact absurd H (by simp)
                  · rw [if_neg c24] at H
                    have c24b0 : decide (x34_3 < (l1.length : Int)) = false := decide_eq_false c24
                    clear c24
                    obtain rfl := Option.some.inj H
                    go_wp2
                    go_ret
                    exact ⟨by first | rfl | (simp [errW_none, errW_some] <;> rfl) | (simp [*, errW_none, errW_some] <;> rfl), by repeat (first | (with_reducible first | exact HB.out | apply below_alloc | apply pw_below_drewN | apply below_drew1) | exact HB.out)⟩

end Go.Proofs.Ythgiiikjcfhgjaa.GC
