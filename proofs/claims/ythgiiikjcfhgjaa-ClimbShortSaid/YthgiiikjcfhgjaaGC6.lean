-- Written by ext.py, a program of this session.
import Derived.Test.YthgiiikjcfhgjaaGC0
import Derived.Test.YthgiiikjcfhgjaaGC2
import Derived.Test.YthgiiikjcfhgjaaGC3
import Derived.Test.YthgiiikjcfhgjaaGC5
namespace Go.Proofs.Ythgiiikjcfhgjaa.GC
open Go.RowKit Go.Proofs.YthgiiikjcfhgjaaW.PrintWords Go.Proofs.YthgiiikjcfhgjaaW.PrintLast Go.Proofs.YthgiiikjcfhgjaaW.PrintMore
attribute [local go_sem] max2_int min2_int max_two min_two max_three min_three max_four min_four cellIs_set   -- for this text's walks alone
set_option linter.unusedVariables false
set_option linter.unusedSimpArgs false

/-! ### climb_Show: function 21 -/
structure S103 where
  f0 : (List Int)
  f1 : Int
def z103 : S103 := ⟨([] : List Int), (0 : Int)⟩
def k103 : Kd S103 := Kd.iso (Kd.pair (Kd.slice 3 (Kd.int .i64)) (Kd.int .i64)) (fun x : S103 => (x.f0, x.f1))
def rd_T103 (xs : List S103) (i : Int) : S103 := xs.getD i.toNat z103
def cS.markp (ops : List S94) (y x : Int) (right : Bool) : Bool := decide (0 ≤ y) && (decide ((rd_T94 ops y).f0 < (rd_T94 ops x).f0) || ((rd_T94 ops y).f0 == (rd_T94 ops x).f0 && (rd_T94 ops x).f1 != right))
def cS.mark (ops : List S94) (s : S103) (x : Int) (right : Bool) : List Int := if cS.markp ops s.f1 x right = true then [[-1], s.f0, [-2]].flatten else s.f0

def cS.show (ops : List S94) (l : List Int) : Nat → Nat → List S103 → Option (List Int × Int)
  | 0, _, _ => none
  | q + 1, i, st => if i < l.length then
      (if rd l i ≥ 100 then (if st.length < 1000 then cS.show ops l q (i + 1) (st ++ [⟨[rd l i], -1⟩]) else none)
      else if st.length < 2 then some ([], 5)
      else if (0 ≤ rd l i ∧ rd l i < (ops.length : Int)) ∧ ((rd_T103 st ((st.length : Int) - 2)).f1 < (ops.length : Int) ∧ (rd_T103 st ((st.length : Int) - 2)).f0.length < 1000) ∧ ((rd_T103 st ((st.length : Int) - 1)).f1 < (ops.length : Int) ∧ (rd_T103 st ((st.length : Int) - 1)).f0.length < 1000) ∧ st.length < 1000 then
        cS.show ops l q (i + 1) (st.take ((st.length : Int) - 2).toNat ++ [⟨[cS.mark ops (rd_T103 st ((st.length : Int) - 2)) (rd l i) false, [rd l i], cS.mark ops (rd_T103 st ((st.length : Int) - 1)) (rd l i) true].flatten, rd l i⟩])
      else none)
    else if st.length ≠ 1 then some ([], 5) else if (rd_T103 st 0).f0.length > 60 then some ([], 1) else some ((rd_T103 st 0).f0, 0)
def climb_Show.f (k : Nat) (l0 : List S94) (l1 : List Int) : Option (List Int × Int) :=
  (climb_wrong.f k l0 l1 false).bind fun e => if e = 0 then (if l1.length < 1000 then cS.show l0 l1 k 0 [] else none) else some ([], e)
theorem cS.show_mono (ops : List S94) (l : List Int) : ∀ q i st, LeO (cS.show ops l q i st) (cS.show ops l (q + 1) i st) := by
  intro q
  induction q with
  | zero => intro i st r h; rw [cS.show] at h; cases h
  | succ q ih =>
    intro i st
    rw [cS.show, cS.show]
    exact LeO.ite (LeO.ite (LeO.ite (ih _ _) (LeO.refl _)) (LeO.ite (LeO.refl _) (LeO.ite (ih _ _) (LeO.refl _)))) (LeO.refl _)
theorem climb_Show.mono : ∀ a0 a1 k, LeO (climb_Show.f k a0 a1) (climb_Show.f (k + 1) a0 a1) := by
  intro a0 a1 k
  unfold climb_Show.f
  exact LeO.bind (climb_wrong.mono _ _ _ _) (fun e => LeO.ite (LeO.ite (cS.show_mono _ _ _ _ _) (LeO.refl _)) (LeO.refl _))
set_option maxRecDepth 100000 in
theorem k103_open {w : World} {x : S103} {cs : List Value} (h : k103.K w x cs) : ∃ A0 c0, cs = [.slice A0 x.f0.length c0, .int .i64 x.f1] ∧ x.f0.length ≤ c0 ∧ (Kd.int .i64).C w A0 x.f0.length x.f0 := by
  obtain ⟨_, _, rfl, ⟨A0, c0, rfl, l0, g0⟩, rfl⟩ := h
  exact ⟨A0, c0, rfl, l0, g0⟩
set_option maxRecDepth 100000 in
theorem k103_openM {w : World} {base : Nat} {ok : Nat → Prop} {x : S103} {cs : List Value} (h : k103.M w base ok x cs) : ∃ v0, cs = [v0, .int .i64 x.f1] ∧ (Kd.int .i64).R 3 w base ok v0 x.f0 := by
  obtain ⟨_, _, rfl, ⟨v0, rfl, g0⟩, rfl⟩ := h
  exact ⟨v0, rfl, g0⟩
set_option maxRecDepth 100000 in
theorem k103_mkM (w : World) (base : Nat) (ok : Nat → Prop) (x : S103) {v0 : Value} (g0 : (Kd.int .i64).R 3 w base ok v0 x.f0) : k103.M w base ok x [v0, .int .i64 x.f1] := ⟨[v0], [.int .i64 x.f1], rfl, ⟨v0, rfl, g0⟩, rfl⟩
set_option maxRecDepth 100000 in
theorem at_T103 {w : World} {A : Option Addr} {n : Nat} {xs : List S103} (h : Kd.C k103 w A n xs) (i : Int) (h0 : 0 ≤ i) (h1 : i < n) : ∃ ad A0 c0, A = some ad ∧ w.cell? (ad.add (i.toNat * 2)) = some (.slice A0 (rd_T103 xs i).f0.length c0) ∧ w.cell? ⟨(ad.add (i.toNat * 2)).block, (ad.add (i.toNat * 2)).off + 1, none⟩ = some (.int .i64 (rd_T103 xs i).f1) ∧ (rd_T103 xs i).f0.length ≤ c0 ∧ (Kd.int .i64).C w A0 (rd_T103 xs i).f0.length (rd_T103 xs i).f0 := by
  obtain ⟨ad, c, e, _, hK, hc0⟩ := Kd.C_get h z103 i h0 h1
  have hc : ∀ j u, c[j]? = some u → w.cell? (ad.add (i.toNat * 2 + j)) = some u := hc0
  obtain ⟨A0, c0, rfl, l0, g0⟩ := k103_open hK
  exact ⟨ad, A0, c0, e, hc 0 _ rfl, by rw [← add_field _ _ 1 (by omega)]; exact hc 1 _ rfl, l0, g0⟩

/-- What reads as a row of numbers. -/
def cS.RD (w : World) (v : Value) (xs : List Int) : Prop := ∃ A c, v = .slice A xs.length c ∧ xs.length ≤ c ∧ Kd.C (Kd.int .i64) w A xs.length xs
set_option maxRecDepth 100000 in
theorem cS.RD.below {w w1 : World} {v : Value} {xs : List Int} (h : cS.RD w v xs) (hb : Below w.heap.size w w1) : cS.RD w1 v xs := by
  obtain ⟨A, c, e, hl, hC⟩ := h
  exact ⟨A, c, e, hl, Kd.C_below hC hb⟩
set_option maxRecDepth 100000 in
theorem cS.RD.of_R {w : World} {b : Nat} {ok : Nat → Prop} {v : Value} {xs : List Int} (h : Kd.R (Kd.int .i64) 3 w b ok v xs) : cS.RD w v xs := Kd.R_reads h
set_option maxRecDepth 100000 in
theorem cS.RD.one (w : World) (x : Int) {b : Nat} (hb : b = w.heap.size) : cS.RD (w.alloc (.cells #[.int .i64 x] 3)) (.slice (some ⟨b, 0, none⟩) 1 1) [x] := by
  subst hb
  refine ⟨_, 1, rfl, Nat.le_refl _, rfl, by simp, fun _ => ⟨_, rfl, fun j p hj => ?_⟩⟩
  match j, hj with
  | 0, hj =>
    obtain rfl := Option.some.inj hj
    refine ⟨[.int .i64 x], rfl, rfl, fun k u hk => ?_⟩
    match k, hk with
    | 0, hk =>
      obtain rfl := Option.some.inj hk
      exact (blk_cell (heap_alloc_new w _) 0).trans rfl
set_option maxRecDepth 100000 in
theorem cS.row3 {w : World} {v0 v1 v2 : Value} {x0 x1 x2 : List Int} (h0 : cS.RD w v0 x0) (h1 : cS.RD w v1 x1) (h2 : cS.RD w v2 x2) {b : Nat} (hbb : b = w.heap.size) : Kd.C (Kd.slice 3 (Kd.int .i64)) (w.alloc (.cells #[v0, v1, v2] 23)) (some ⟨b, 0, none⟩) 3 [x0, x1, x2] := by
  subst hbb
  have hb : Below w.heap.size w (w.alloc (.cells #[v0, v1, v2] 23)) := below_alloc (Below.refl _ _) _
  refine ⟨rfl, by simp, fun _ => ⟨_, rfl, fun j p hj => ?_⟩⟩
  have hK : ∀ {v : Value} {xs : List Int}, cS.RD w v xs → (Kd.slice 3 (Kd.int .i64)).K (w.alloc (.cells #[v0, v1, v2] 23)) xs [v] := by
    intro v xs h
    obtain ⟨A, c, rfl, hl, hC⟩ := h.below hb
    exact ⟨A, c, rfl, hl, hC⟩
  have hc : ∀ (i : Nat) (v : Value), (#[v0, v1, v2] : Array Value)[i]? = some v → (w.alloc (.cells #[v0, v1, v2] 23)).cell? ((⟨w.heap.size, 0, none⟩ : Addr).add i) = some v := by
    intro i v hv
    rw [← hv, show (⟨w.heap.size, 0, none⟩ : Addr).add i = ⟨w.heap.size, i, none⟩ from by unfold Addr.add; split <;> simp_all]
    exact blk_cell (heap_alloc_new w _) i
  match j, hj with
  | 0, hj =>
    obtain rfl := Option.some.inj hj
    exact ⟨[v0], rfl, hK h0, fun k u hk => by match k, hk with | 0, hk => (obtain rfl := Option.some.inj hk; exact hc 0 _ rfl)⟩
  | 1, hj =>
    obtain rfl := Option.some.inj hj
    exact ⟨[v1], rfl, hK h1, fun k u hk => by match k, hk with | 0, hk => (obtain rfl := Option.some.inj hk; exact hc 1 _ rfl)⟩
  | 2, hj =>
    obtain rfl := Option.some.inj hj
    exact ⟨[v2], rfl, hK h2, fun k u hk => by match k, hk with | 0, hk => (obtain rfl := Option.some.inj hk; exact hc 2 _ rfl)⟩
set_option maxRecDepth 100000 in
theorem cS.cat3 {w : World} {v : Value} {xs : List Int} (h : cS.RD w v xs) (hsm : xs.length < 100000) (a b : Int) : Calls Try.prog 59 #[.slice (some ⟨w.heap.size + 1 + 1, 0, none⟩) 3 3] (((w.alloc (.cells #[.int .i64 a] 3)).alloc (.cells #[.int .i64 b] 3)).alloc (.cells #[.slice (some ⟨w.heap.size, 0, none⟩) 1 1, v, .slice (some ⟨w.heap.size + 1, 0, none⟩) 1 1] 23)) fun e w' => ∃ v0, e = .returned v0 ∧ cS.RD w' v0 ([[a], xs, [b]].flatten) ∧ Below w.heap.size w w' := by
  refine (slices_Concat_int_int.calls (some ⟨w.heap.size + 1 + 1, 0, none⟩) 3 [[a], xs, [b]] ([[a], xs, [b]].flatten) _ (cS.row3 ((cS.RD.one _ _ rfl).below (below_alloc (Below.refl _ _) _)) (h.below (below_alloc (below_alloc (Below.refl _ _) _) _)) (cS.RD.one _ _ (by simp)) (by simp)) (Nat.le_refl _) ?_).mono ?_
  · unfold slices_Concat_int_int.f
    rw [if_pos (by refine ⟨by simp, ?_⟩; simp; omega)]
  · rintro e w6 ⟨v0, rfl, hr6, hb6⟩
    exact ⟨v0, rfl, cS.RD.of_R hr6, Below.trans (below_alloc (below_alloc (below_alloc (Below.refl _ _) _) _) _) (Below.mono hb6 (by simp; omega))⟩
set_option maxRecDepth 100000 in
set_option maxHeartbeats 4000000 in
theorem cS.mark_calls {w : World} {g : Nat} {A0 : Option Addr} {c0 : Nat} {l0 : List S94} {s : S103} {A1 : Option Addr} {c1 : Nat} {x : Int} {right : Bool} (hg : w.cell? ⟨g, 0, none⟩ = some (.slice A0 l0.length c0)) (hr0 : Kd.C k94 w A0 l0.length l0) (hc1 : s.f0.length ≤ c1) (hr1 : Kd.C (Kd.int .i64) w A1 s.f0.length s.f0) (hx0 : 0 ≤ x) (hx1 : x < (l0.length : Int)) (hs1 : s.f1 < (l0.length : Int)) (hsm : s.f0.length < 100000) :
    Calls Try.prog 58 #[.agg #[.slice A1 s.f0.length c1, .int .i64 s.f1], .int .i64 x, .bool right, .pointer (some ⟨g, 0, none⟩)] w fun e w' => ∃ v, e = .returned v ∧ cS.RD w' v (cS.mark l0 s x right) ∧ Below w.heap.size w w' := by
  have hu94 := Try.underlying94
  have hu103 := Try.underlying103
  obtain ⟨xs, y⟩ := s
  dsimp only at hc1 hr1 hs1 hsm ⊢
  have HR := Aside0.mk (show cS.RD w (.slice A1 xs.length c1) xs from ⟨A1, c1, rfl, hc1, hr1⟩)
  have BL := Aside0.mk (below_alloc (Below.refl w.heap.size w) (Obj.cells #[.slice A1 xs.length c1, .int .i64 y] 103))
  have z0 : (w.alloc (.cells #[.slice A1 xs.length c1, .int .i64 y] 103)).cell? ⟨w.heap.size, 1, none⟩ = some (.int .i64 y) := (blk_cell (heap_alloc_new w _) 1).trans rfl
  have zA : (w.alloc (.cells #[.slice A1 xs.length c1, .int .i64 y] 103)).cell? ⟨w.heap.size, 0, none⟩ = some (.slice A1 xs.length c1) := (blk_cell (heap_alloc_new w _) 0).trans rfl
  have ZA := Aside0.mk zA
  have H5 := Aside0.mk hsm
  have hm : cS.mark l0 ⟨xs, y⟩ x right = if cS.markp l0 y x right = true then [[-1], xs, [-2]].flatten else xs := rfl
  have HM := Aside0.mk hm
  clear zA hm hc1 hr1 hsm
  by_cases cy : y < 0
  · have cyt : (0 ≤ y) = False := eq_false (by omega)
    have HP := Aside0.mk (show cS.markp l0 y x right = false by unfold cS.markp; simp [cyt])
    clear cy
    go_enter Try.func58, Try.ntmps58
    go_wp2
    refine start_ (n := 40) (S := (fun w' => w'.cell? ⟨w.heap.size, 1, none⟩ = some (.int .i64 y))) (ds := []) #[false, false, false, false, false, false, false, false, false, false, false, false, false, false, false, false, false, false, false, false, false, false, false, false, false, false, false, false, false, false, false, false, false, false, false, false, false, false, false, false] (by kernel_rfl) rfl rfl (z0) (fun hHeld => ?_)
    refine take_ (i := 0) (N := some 8) (v := ?_) (a' := ?_) #[true, false, false, false, false, false, false, false, false, false, false, false, false, false, false, false, false, false, false, false, false, false, false, false, false, false, false, false, false, false, false, false, false, false, false, false, false, false, false, false] rfl rfl (by kernel_rfl) (fun _ _ _ h_ => h_) (Or.inl ⟨by rfl, ?_⟩) hHeld ?_ ?_
    rotate_left
    · intro w_ hSw
      (have hz0 := hSw)
      go_simp
      first | done | with_reducible rfl
    rotate_left
    · simp only [Act.put, List.setIfInBounds_toArray, List.set_cons_zero, List.set_cons_succ]
      rfl
    refine take_ (i := 1) (N := some 9) (v := ?_) (a' := ?_) #[true, true, false, false, false, false, false, false, false, false, false, false, false, false, false, false, false, false, false, false, false, false, false, false, false, false, false, false, false, false, false, false, false, false, false, false, false, false, false, false] rfl rfl (by kernel_rfl) (fun _ _ _ h_ => h_) (Or.inl ⟨by rfl, ?_⟩) hHeld ?_ ?_
    rotate_left
    · intro w_ hSw
      (have hz0 := hSw)
      go_simp
      first | done | with_reducible rfl
    rotate_left
    · simp only [Act.put, List.setIfInBounds_toArray, List.set_cons_zero, List.set_cons_succ]
      rfl
    refine take_ (i := 2) (N := some 10) (v := ?_) (a' := ?_) #[true, true, true, false, false, false, false, false, false, false, false, false, false, false, false, false, false, false, false, false, false, false, false, false, false, false, false, false, false, false, false, false, false, false, false, false, false, false, false, false] rfl rfl (by kernel_rfl) (fun _ _ _ h_ => h_) (Or.inl ⟨by rfl, ?_⟩) hHeld ?_ ?_
    rotate_left
    · intro w_ hSw
      (have hz0 := hSw)
      go_simp
      first | done | with_reducible rfl
    rotate_left
    · simp only [Act.put, List.setIfInBounds_toArray, List.set_cons_zero, List.set_cons_succ]
      rfl
    refine take_ (i := 3) (N := some 11) (v := ?_) (a' := ?_) #[true, true, true, true, false, false, false, false, false, false, false, false, false, false, false, false, false, false, false, false, false, false, false, false, false, false, false, false, false, false, false, false, false, false, false, false, false, false, false, false] rfl rfl (by kernel_rfl) (fun _ _ _ h_ => h_) (Or.inl ⟨by rfl, ?_⟩) hHeld ?_ ?_
    rotate_left
    · intro w_ hSw
      (have hz0 := hSw)
      go_simp
      first | done | with_reducible rfl
    rotate_left
    · simp only [Act.put, List.setIfInBounds_toArray, List.set_cons_zero, List.set_cons_succ]
      rfl
    refine take_ (i := 4) (N := some 12) (v := undef) (a' := ?_) #[true, true, true, true, true, false, false, false, false, false, false, false, false, false, false, false, false, false, false, false, false, false, false, false, false, false, false, false, false, false, false, false, false, false, false, false, false, false, false, false] rfl rfl (by kernel_rfl) (fun _ _ _ h_ => h_) (Or.inr ⟨by rfl, rfl⟩) hHeld ?_ ?_
    rotate_left
    · simp only [Act.put, List.setIfInBounds_toArray, List.set_cons_zero, List.set_cons_succ]
      rfl
    refine take_ (i := 5) (N := some 13) (v := undef) (a' := ?_) #[true, true, true, true, true, true, false, false, false, false, false, false, false, false, false, false, false, false, false, false, false, false, false, false, false, false, false, false, false, false, false, false, false, false, false, false, false, false, false, false] rfl rfl (by kernel_rfl) (fun _ _ _ h_ => h_) (Or.inr ⟨by rfl, rfl⟩) hHeld ?_ ?_
    rotate_left
    · simp only [Act.put, List.setIfInBounds_toArray, List.set_cons_zero, List.set_cons_succ]
      rfl
    refine take_ (i := 6) (N := some 14) (v := undef) (a' := ?_) #[true, true, true, true, true, true, true, false, false, false, false, false, false, false, false, false, false, false, false, false, false, false, false, false, false, false, false, false, false, false, false, false, false, false, false, false, false, false, false, false] rfl rfl (by kernel_rfl) (fun _ _ _ h_ => h_) (Or.inr ⟨by rfl, rfl⟩) hHeld ?_ ?_
    rotate_left
    · simp only [Act.put, List.setIfInBounds_toArray, List.set_cons_zero, List.set_cons_succ]
      rfl
    refine take_ (i := 7) (N := some 15) (v := undef) (a' := ?_) #[true, true, true, true, true, true, true, true, false, false, false, false, false, false, false, false, false, false, false, false, false, false, false, false, false, false, false, false, false, false, false, false, false, false, false, false, false, false, false, false] rfl rfl (by kernel_rfl) (fun _ _ _ h_ => h_) (Or.inr ⟨by rfl, rfl⟩) hHeld ?_ ?_
    rotate_left
    · simp only [Act.put, List.setIfInBounds_toArray, List.set_cons_zero, List.set_cons_succ]
      rfl
    refine take_ (i := 8) (N := some 16) (v := undef) (a' := ?_) #[true, true, true, true, true, true, true, true, true, false, false, false, false, false, false, false, false, false, false, false, false, false, false, false, false, false, false, false, false, false, false, false, false, false, false, false, false, false, false, false] rfl rfl (by kernel_rfl) (fun _ _ _ h_ => h_) (Or.inr ⟨by rfl, rfl⟩) hHeld ?_ ?_
    rotate_left
    · simp only [Act.put, List.setIfInBounds_toArray, List.set_cons_zero, List.set_cons_succ]
      rfl
    refine take_ (i := 9) (N := some 17) (v := undef) (a' := ?_) #[true, true, true, true, true, true, true, true, true, true, false, false, false, false, false, false, false, false, false, false, false, false, false, false, false, false, false, false, false, false, false, false, false, false, false, false, false, false, false, false] rfl rfl (by kernel_rfl) (fun _ _ _ h_ => h_) (Or.inr ⟨by rfl, rfl⟩) hHeld ?_ ?_
    rotate_left
    · simp only [Act.put, List.setIfInBounds_toArray, List.set_cons_zero, List.set_cons_succ]
      rfl
    refine take_ (i := 10) (N := some 18) (v := undef) (a' := ?_) #[true, true, true, true, true, true, true, true, true, true, true, false, false, false, false, false, false, false, false, false, false, false, false, false, false, false, false, false, false, false, false, false, false, false, false, false, false, false, false, false] rfl rfl (by kernel_rfl) (fun _ _ _ h_ => h_) (Or.inr ⟨by rfl, rfl⟩) hHeld ?_ ?_
    rotate_left
    · simp only [Act.put, List.setIfInBounds_toArray, List.set_cons_zero, List.set_cons_succ]
      rfl
    refine take_ (i := 11) (N := some 19) (v := undef) (a' := ?_) #[true, true, true, true, true, true, true, true, true, true, true, true, false, false, false, false, false, false, false, false, false, false, false, false, false, false, false, false, false, false, false, false, false, false, false, false, false, false, false, false] rfl rfl (by kernel_rfl) (fun _ _ _ h_ => h_) (Or.inr ⟨by rfl, rfl⟩) hHeld ?_ ?_
    rotate_left
    · simp only [Act.put, List.setIfInBounds_toArray, List.set_cons_zero, List.set_cons_succ]
      rfl
    refine take_ (i := 12) (N := some 20) (v := undef) (a' := ?_) #[true, true, true, true, true, true, true, true, true, true, true, true, true, false, false, false, false, false, false, false, false, false, false, false, false, false, false, false, false, false, false, false, false, false, false, false, false, false, false, false] rfl rfl (by kernel_rfl) (fun _ _ _ h_ => h_) (Or.inr ⟨by rfl, rfl⟩) hHeld ?_ ?_
    rotate_left
    · simp only [Act.put, List.setIfInBounds_toArray, List.set_cons_zero, List.set_cons_succ]
      rfl
    refine take_ (i := 13) (N := some 21) (v := undef) (a' := ?_) #[true, true, true, true, true, true, true, true, true, true, true, true, true, true, false, false, false, false, false, false, false, false, false, false, false, false, false, false, false, false, false, false, false, false, false, false, false, false, false, false] rfl rfl (by kernel_rfl) (fun _ _ _ h_ => h_) (Or.inr ⟨by rfl, rfl⟩) hHeld ?_ ?_
    rotate_left
    · simp only [Act.put, List.setIfInBounds_toArray, List.set_cons_zero, List.set_cons_succ]
      rfl
    refine take_ (i := 14) (N := some 22) (v := undef) (a' := ?_) #[true, true, true, true, true, true, true, true, true, true, true, true, true, true, true, false, false, false, false, false, false, false, false, false, false, false, false, false, false, false, false, false, false, false, false, false, false, false, false, false] rfl rfl (by kernel_rfl) (fun _ _ _ h_ => h_) (Or.inr ⟨by rfl, rfl⟩) hHeld ?_ ?_
    rotate_left
    · simp only [Act.put, List.setIfInBounds_toArray, List.set_cons_zero, List.set_cons_succ]
      rfl
    refine take_ (i := 15) (N := some 23) (v := undef) (a' := ?_) #[true, true, true, true, true, true, true, true, true, true, true, true, true, true, true, true, false, false, false, false, false, false, false, false, false, false, false, false, false, false, false, false, false, false, false, false, false, false, false, false] rfl rfl (by kernel_rfl) (fun _ _ _ h_ => h_) (Or.inr ⟨by rfl, rfl⟩) hHeld ?_ ?_
    rotate_left
    · simp only [Act.put, List.setIfInBounds_toArray, List.set_cons_zero, List.set_cons_succ]
      rfl
    refine take_ (i := 16) (N := some 24) (v := undef) (a' := ?_) #[true, true, true, true, true, true, true, true, true, true, true, true, true, true, true, true, true, false, false, false, false, false, false, false, false, false, false, false, false, false, false, false, false, false, false, false, false, false, false, false] rfl rfl (by kernel_rfl) (fun _ _ _ h_ => h_) (Or.inr ⟨by rfl, rfl⟩) hHeld ?_ ?_
    rotate_left
    · simp only [Act.put, List.setIfInBounds_toArray, List.set_cons_zero, List.set_cons_succ]
      rfl
    refine take_ (i := 17) (N := some 25) (v := undef) (a' := ?_) #[true, true, true, true, true, true, true, true, true, true, true, true, true, true, true, true, true, true, false, false, false, false, false, false, false, false, false, false, false, false, false, false, false, false, false, false, false, false, false, false] rfl rfl (by kernel_rfl) (fun _ _ _ h_ => h_) (Or.inr ⟨by rfl, rfl⟩) hHeld ?_ ?_
    rotate_left
    · simp only [Act.put, List.setIfInBounds_toArray, List.set_cons_zero, List.set_cons_succ]
      rfl
    refine take_ (i := 18) (N := some 26) (v := undef) (a' := ?_) #[true, true, true, true, true, true, true, true, true, true, true, true, true, true, true, true, true, true, true, false, false, false, false, false, false, false, false, false, false, false, false, false, false, false, false, false, false, false, false, false] rfl rfl (by kernel_rfl) (fun _ _ _ h_ => h_) (Or.inr ⟨by rfl, rfl⟩) hHeld ?_ ?_
    rotate_left
    · simp only [Act.put, List.setIfInBounds_toArray, List.set_cons_zero, List.set_cons_succ]
      rfl
    refine take_ (i := 19) (N := some 27) (v := undef) (a' := ?_) #[true, true, true, true, true, true, true, true, true, true, true, true, true, true, true, true, true, true, true, true, false, false, false, false, false, false, false, false, false, false, false, false, false, false, false, false, false, false, false, false] rfl rfl (by kernel_rfl) (fun _ _ _ h_ => h_) (Or.inr ⟨by rfl, rfl⟩) hHeld ?_ ?_
    rotate_left
    · simp only [Act.put, List.setIfInBounds_toArray, List.set_cons_zero, List.set_cons_succ]
      rfl
    refine take_ (i := 20) (N := some 28) (v := undef) (a' := ?_) #[true, true, true, true, true, true, true, true, true, true, true, true, true, true, true, true, true, true, true, true, true, false, false, false, false, false, false, false, false, false, false, false, false, false, false, false, false, false, false, false] rfl rfl (by kernel_rfl) (fun _ _ _ h_ => h_) (Or.inr ⟨by rfl, rfl⟩) hHeld ?_ ?_
    rotate_left
    · simp only [Act.put, List.setIfInBounds_toArray, List.set_cons_zero, List.set_cons_succ]
      rfl
    refine take_ (i := 21) (N := some 29) (v := undef) (a' := ?_) #[true, true, true, true, true, true, true, true, true, true, true, true, true, true, true, true, true, true, true, true, true, true, false, false, false, false, false, false, false, false, false, false, false, false, false, false, false, false, false, false] rfl rfl (by kernel_rfl) (fun _ _ _ h_ => h_) (Or.inr ⟨by rfl, rfl⟩) hHeld ?_ ?_
    rotate_left
    · simp only [Act.put, List.setIfInBounds_toArray, List.set_cons_zero, List.set_cons_succ]
      rfl
    refine take_ (i := 22) (N := some 30) (v := undef) (a' := ?_) #[true, true, true, true, true, true, true, true, true, true, true, true, true, true, true, true, true, true, true, true, true, true, true, false, false, false, false, false, false, false, false, false, false, false, false, false, false, false, false, false] rfl rfl (by kernel_rfl) (fun _ _ _ h_ => h_) (Or.inr ⟨by rfl, rfl⟩) hHeld ?_ ?_
    rotate_left
    · simp only [Act.put, List.setIfInBounds_toArray, List.set_cons_zero, List.set_cons_succ]
      rfl
    refine take_ (i := 23) (N := some 31) (v := undef) (a' := ?_) #[true, true, true, true, true, true, true, true, true, true, true, true, true, true, true, true, true, true, true, true, true, true, true, true, false, false, false, false, false, false, false, false, false, false, false, false, false, false, false, false] rfl rfl (by kernel_rfl) (fun _ _ _ h_ => h_) (Or.inr ⟨by rfl, rfl⟩) hHeld ?_ ?_
    rotate_left
    · simp only [Act.put, List.setIfInBounds_toArray, List.set_cons_zero, List.set_cons_succ]
      rfl
    refine take_ (i := 24) (N := some 32) (v := undef) (a' := ?_) #[true, true, true, true, true, true, true, true, true, true, true, true, true, true, true, true, true, true, true, true, true, true, true, true, true, false, false, false, false, false, false, false, false, false, false, false, false, false, false, false] rfl rfl (by kernel_rfl) (fun _ _ _ h_ => h_) (Or.inr ⟨by rfl, rfl⟩) hHeld ?_ ?_
    rotate_left
    · simp only [Act.put, List.setIfInBounds_toArray, List.set_cons_zero, List.set_cons_succ]
      rfl
    refine take_ (i := 25) (N := some 33) (v := undef) (a' := ?_) #[true, true, true, true, true, true, true, true, true, true, true, true, true, true, true, true, true, true, true, true, true, true, true, true, true, true, false, false, false, false, false, false, false, false, false, false, false, false, false, false] rfl rfl (by kernel_rfl) (fun _ _ _ h_ => h_) (Or.inr ⟨by rfl, rfl⟩) hHeld ?_ ?_
    rotate_left
    · simp only [Act.put, List.setIfInBounds_toArray, List.set_cons_zero, List.set_cons_succ]
      rfl
    refine take_ (i := 26) (N := some 34) (v := undef) (a' := ?_) #[true, true, true, true, true, true, true, true, true, true, true, true, true, true, true, true, true, true, true, true, true, true, true, true, true, true, true, false, false, false, false, false, false, false, false, false, false, false, false, false] rfl rfl (by kernel_rfl) (fun _ _ _ h_ => h_) (Or.inr ⟨by rfl, rfl⟩) hHeld ?_ ?_
    rotate_left
    · simp only [Act.put, List.setIfInBounds_toArray, List.set_cons_zero, List.set_cons_succ]
      rfl
    refine take_ (i := 27) (N := some 35) (v := undef) (a' := ?_) #[true, true, true, true, true, true, true, true, true, true, true, true, true, true, true, true, true, true, true, true, true, true, true, true, true, true, true, true, false, false, false, false, false, false, false, false, false, false, false, false] rfl rfl (by kernel_rfl) (fun _ _ _ h_ => h_) (Or.inr ⟨by rfl, rfl⟩) hHeld ?_ ?_
    rotate_left
    · simp only [Act.put, List.setIfInBounds_toArray, List.set_cons_zero, List.set_cons_succ]
      rfl
    refine take_ (i := 28) (N := some 36) (v := undef) (a' := ?_) #[true, true, true, true, true, true, true, true, true, true, true, true, true, true, true, true, true, true, true, true, true, true, true, true, true, true, true, true, true, false, false, false, false, false, false, false, false, false, false, false] rfl rfl (by kernel_rfl) (fun _ _ _ h_ => h_) (Or.inr ⟨by rfl, rfl⟩) hHeld ?_ ?_
    rotate_left
    · simp only [Act.put, List.setIfInBounds_toArray, List.set_cons_zero, List.set_cons_succ]
      rfl
    refine take_ (i := 29) (N := some 37) (v := undef) (a' := ?_) #[true, true, true, true, true, true, true, true, true, true, true, true, true, true, true, true, true, true, true, true, true, true, true, true, true, true, true, true, true, true, false, false, false, false, false, false, false, false, false, false] rfl rfl (by kernel_rfl) (fun _ _ _ h_ => h_) (Or.inr ⟨by rfl, rfl⟩) hHeld ?_ ?_
    rotate_left
    · simp only [Act.put, List.setIfInBounds_toArray, List.set_cons_zero, List.set_cons_succ]
      rfl
    refine take_ (i := 30) (N := some 38) (v := undef) (a' := ?_) #[true, true, true, true, true, true, true, true, true, true, true, true, true, true, true, true, true, true, true, true, true, true, true, true, true, true, true, true, true, true, true, false, false, false, false, false, false, false, false, false] rfl rfl (by kernel_rfl) (fun _ _ _ h_ => h_) (Or.inr ⟨by rfl, rfl⟩) hHeld ?_ ?_
    rotate_left
    · simp only [Act.put, List.setIfInBounds_toArray, List.set_cons_zero, List.set_cons_succ]
      rfl
    refine take_ (i := 31) (N := some 39) (v := undef) (a' := ?_) #[true, true, true, true, true, true, true, true, true, true, true, true, true, true, true, true, true, true, true, true, true, true, true, true, true, true, true, true, true, true, true, true, false, false, false, false, false, false, false, false] rfl rfl (by kernel_rfl) (fun _ _ _ h_ => h_) (Or.inr ⟨by rfl, rfl⟩) hHeld ?_ ?_
    rotate_left
    · simp only [Act.put, List.setIfInBounds_toArray, List.set_cons_zero, List.set_cons_succ]
      rfl
    refine take_ (i := 32) (N := some 40) (v := undef) (a' := ?_) #[true, true, true, true, true, true, true, true, true, true, true, true, true, true, true, true, true, true, true, true, true, true, true, true, true, true, true, true, true, true, true, true, true, false, false, false, false, false, false, false] rfl rfl (by kernel_rfl) (fun _ _ _ h_ => h_) (Or.inr ⟨by rfl, rfl⟩) hHeld ?_ ?_
    rotate_left
    · simp only [Act.put, List.setIfInBounds_toArray, List.set_cons_zero, List.set_cons_succ]
      rfl
    refine take_ (i := 33) (N := some 41) (v := undef) (a' := ?_) #[true, true, true, true, true, true, true, true, true, true, true, true, true, true, true, true, true, true, true, true, true, true, true, true, true, true, true, true, true, true, true, true, true, true, false, false, false, false, false, false] rfl rfl (by kernel_rfl) (fun _ _ _ h_ => h_) (Or.inr ⟨by rfl, rfl⟩) hHeld ?_ ?_
    rotate_left
    · simp only [Act.put, List.setIfInBounds_toArray, List.set_cons_zero, List.set_cons_succ]
      rfl
    refine take_ (i := 34) (N := some 42) (v := undef) (a' := ?_) #[true, true, true, true, true, true, true, true, true, true, true, true, true, true, true, true, true, true, true, true, true, true, true, true, true, true, true, true, true, true, true, true, true, true, true, false, false, false, false, false] rfl rfl (by kernel_rfl) (fun _ _ _ h_ => h_) (Or.inr ⟨by rfl, rfl⟩) hHeld ?_ ?_
    rotate_left
    · simp only [Act.put, List.setIfInBounds_toArray, List.set_cons_zero, List.set_cons_succ]
      rfl
    refine take_ (i := 35) (N := some 43) (v := undef) (a' := ?_) #[true, true, true, true, true, true, true, true, true, true, true, true, true, true, true, true, true, true, true, true, true, true, true, true, true, true, true, true, true, true, true, true, true, true, true, true, false, false, false, false] rfl rfl (by kernel_rfl) (fun _ _ _ h_ => h_) (Or.inr ⟨by rfl, rfl⟩) hHeld ?_ ?_
    rotate_left
    · simp only [Act.put, List.setIfInBounds_toArray, List.set_cons_zero, List.set_cons_succ]
      rfl
    refine take_ (i := 36) (N := some 44) (v := undef) (a' := ?_) #[true, true, true, true, true, true, true, true, true, true, true, true, true, true, true, true, true, true, true, true, true, true, true, true, true, true, true, true, true, true, true, true, true, true, true, true, true, false, false, false] rfl rfl (by kernel_rfl) (fun _ _ _ h_ => h_) (Or.inr ⟨by rfl, rfl⟩) hHeld ?_ ?_
    rotate_left
    · simp only [Act.put, List.setIfInBounds_toArray, List.set_cons_zero, List.set_cons_succ]
      rfl
    refine take_ (i := 37) (N := some 45) (v := undef) (a' := ?_) #[true, true, true, true, true, true, true, true, true, true, true, true, true, true, true, true, true, true, true, true, true, true, true, true, true, true, true, true, true, true, true, true, true, true, true, true, true, true, false, false] rfl rfl (by kernel_rfl) (fun _ _ _ h_ => h_) (Or.inr ⟨by rfl, rfl⟩) hHeld ?_ ?_
    rotate_left
    · simp only [Act.put, List.setIfInBounds_toArray, List.set_cons_zero, List.set_cons_succ]
      rfl
    refine take_ (i := 38) (N := some 46) (v := undef) (a' := ?_) #[true, true, true, true, true, true, true, true, true, true, true, true, true, true, true, true, true, true, true, true, true, true, true, true, true, true, true, true, true, true, true, true, true, true, true, true, true, true, true, false] rfl rfl (by kernel_rfl) (fun _ _ _ h_ => h_) (Or.inr ⟨by rfl, rfl⟩) hHeld ?_ ?_
    rotate_left
    · simp only [Act.put, List.setIfInBounds_toArray, List.set_cons_zero, List.set_cons_succ]
      rfl
    refine take_ (i := 39) (N := some 47) (v := ?_) (a' := ?_) #[true, true, true, true, true, true, true, true, true, true, true, true, true, true, true, true, true, true, true, true, true, true, true, true, true, true, true, true, true, true, true, true, true, true, true, true, true, true, true, true] rfl rfl (by kernel_rfl) (fun _ _ _ h_ => h_) (Or.inl ⟨by rfl, ?_⟩) hHeld ?_ ?_
    rotate_left
    · intro w_ hSw
      (have hz0 := hSw)
      go_simp
      first | done | with_reducible rfl
    rotate_left
    · simp only [Act.put, List.setIfInBounds_toArray, List.set_cons_zero, List.set_cons_succ]
      rfl
    refine done_ (by kernel_rfl) ?_
    have hq0 : (w.alloc (.cells #[.slice A1 xs.length c1, .int .i64 y] 103)).drew.cell? ⟨w.heap.size, 0, none⟩ = some (.slice A1 xs.length c1) := ZA.out
    have H7 := Aside0.mk (show Below w.heap.size w (w.alloc (.cells #[.slice A1 xs.length c1, .int .i64 y] 103)).drew from Below.grown BL.out (cR.drew1 _) (below_size BL.out) (fun k e => by cases e))
    have HR7 := Aside0.mk (show cS.RD ((w.alloc (.cells #[.slice A1 xs.length c1, .int .i64 y] 103)).drew) (.slice A1 xs.length c1) xs from HR.out.below H7.out)
    generalize World.drew _ = w5 at hq0 H7 HR7 ⊢
    clear z0 
    go_wp2
    go_ret
    exact ⟨_, rfl, by rw [HM.out, if_neg (by rw [HP.out]; simp)]; exact HR7.out, H7.out⟩
  · have cyt : (0 ≤ y) = True := eq_true (by omega)
    have cy0 : 0 ≤ y := by omega
    obtain ⟨adx, rfl, y0, y1⟩ := at_T94 hr0 y cy0 hs1
    obtain ⟨adx', eA', x0, x1⟩ := at_T94 hr0 x hx0 hx1
    obtain rfl := Option.some.inj eA'
    have z1 := Lib.cell?_alloc_some (.cells #[.slice A1 xs.length c1, .int .i64 y] 103) hg
    have z2 := Lib.cell?_alloc_some (.cells #[.slice A1 xs.length c1, .int .i64 y] 103) y0
    have z3 := Lib.cell?_alloc_some (.cells #[.slice A1 xs.length c1, .int .i64 y] 103) x0
    have z4 := Lib.cell?_alloc_some (.cells #[.slice A1 xs.length c1, .int .i64 y] 103) x1
    have hp : cS.markp l0 y x right = (decide (0 ≤ y) && (decide ((rd_T94 l0 y).f0 < (rd_T94 l0 x).f0) || ((rd_T94 l0 y).f0 == (rd_T94 l0 x).f0 && (rd_T94 l0 x).f1 != right))) := rfl
    generalize hya0 : (rd_T94 l0 y).f0 = a0 at z2 hp
    generalize hyb0 : (rd_T94 l0 x).f0 = b0 at z3 hp
    generalize hyb1 : (rd_T94 l0 x).f1 = b1 at z4 hp
    have p1 : (y < (l0.length : Int)) = True := eq_true hs1
    have p2 : (0 ≤ x) = True := eq_true hx0
    have p3 : (x < (l0.length : Int)) = True := eq_true hx1
    have HP1 := Aside0.mk hp
    clear hya0 hyb0 hyb1 hp cy y0 y1 x0 x1 hr0 eA' hs1 hx0 hx1 hg cy0
    by_cases d1 : a0 < b0
    · have d1t : (a0 < b0) = True := eq_true d1
      have HP := Aside0.mk (show cS.markp l0 y x right = true by rw [HP1.out]; simp [cyt, d1])
      clear d1
      go_enter Try.func58, Try.ntmps58
      go_wp2
      refine start_ (n := 40) (S := (fun w' => w'.cell? ⟨w.heap.size, 1, none⟩ = some (.int .i64 y) ∧ w'.cell? ⟨g, 0, none⟩ = some (.slice (some adx) l0.length c0) ∧ w'.cell? (adx.add (y.toNat * 2)) = some (.int .i64 a0) ∧ w'.cell? (adx.add (x.toNat * 2)) = some (.int .i64 b0) ∧ w'.cell? ⟨(adx.add (x.toNat * 2)).block, (adx.add (x.toNat * 2)).off + 1, none⟩ = some (.bool b1))) (ds := []) #[false, false, false, false, false, false, false, false, false, false, false, false, false, false, false, false, false, false, false, false, false, false, false, false, false, false, false, false, false, false, false, false, false, false, false, false, false, false, false, false] (by kernel_rfl) rfl rfl (⟨z0, z1, z2, z3, z4⟩) (fun hHeld => ?_)
      refine take_ (i := 0) (N := some 8) (v := ?_) (a' := ?_) #[true, false, false, false, false, false, false, false, false, false, false, false, false, false, false, false, false, false, false, false, false, false, false, false, false, false, false, false, false, false, false, false, false, false, false, false, false, false, false, false] rfl rfl (by kernel_rfl) (fun _ _ _ h_ => h_) (Or.inl ⟨by rfl, ?_⟩) hHeld ?_ ?_
      rotate_left
      · intro w_ hSw
        (obtain ⟨hz0, hz1, hz2, hz3, hz4⟩ := hSw)
        go_simp
        first | done | with_reducible rfl
      rotate_left
      · simp only [Act.put, List.setIfInBounds_toArray, List.set_cons_zero, List.set_cons_succ]
        rfl
      refine take_ (i := 1) (N := some 9) (v := ?_) (a' := ?_) #[true, true, false, false, false, false, false, false, false, false, false, false, false, false, false, false, false, false, false, false, false, false, false, false, false, false, false, false, false, false, false, false, false, false, false, false, false, false, false, false] rfl rfl (by kernel_rfl) (fun _ _ _ h_ => h_) (Or.inl ⟨by rfl, ?_⟩) hHeld ?_ ?_
      rotate_left
      · intro w_ hSw
        (obtain ⟨hz0, hz1, hz2, hz3, hz4⟩ := hSw)
        go_simp
        first | done | with_reducible rfl
      rotate_left
      · simp only [Act.put, List.setIfInBounds_toArray, List.set_cons_zero, List.set_cons_succ]
        rfl
      refine take_ (i := 2) (N := some 10) (v := ?_) (a' := ?_) #[true, true, true, false, false, false, false, false, false, false, false, false, false, false, false, false, false, false, false, false, false, false, false, false, false, false, false, false, false, false, false, false, false, false, false, false, false, false, false, false] rfl rfl (by kernel_rfl) (fun _ _ _ h_ => h_) (Or.inl ⟨by rfl, ?_⟩) hHeld ?_ ?_
      rotate_left
      · intro w_ hSw
        (obtain ⟨hz0, hz1, hz2, hz3, hz4⟩ := hSw)
        go_simp
        first | done | with_reducible rfl
      rotate_left
      · simp only [Act.put, List.setIfInBounds_toArray, List.set_cons_zero, List.set_cons_succ]
        rfl
      refine take_ (i := 3) (N := some 11) (v := ?_) (a' := ?_) #[true, true, true, true, false, false, false, false, false, false, false, false, false, false, false, false, false, false, false, false, false, false, false, false, false, false, false, false, false, false, false, false, false, false, false, false, false, false, false, false] rfl rfl (by kernel_rfl) (fun _ _ _ h_ => h_) (Or.inl ⟨by rfl, ?_⟩) hHeld ?_ ?_
      rotate_left
      · intro w_ hSw
        (obtain ⟨hz0, hz1, hz2, hz3, hz4⟩ := hSw)
        go_simp
        first | done | with_reducible rfl
      rotate_left
      · simp only [Act.put, List.setIfInBounds_toArray, List.set_cons_zero, List.set_cons_succ]
        rfl
      refine take_ (i := 4) (N := some 12) (v := ?_) (a' := ?_) #[true, true, true, true, true, false, false, false, false, false, false, false, false, false, false, false, false, false, false, false, false, false, false, false, false, false, false, false, false, false, false, false, false, false, false, false, false, false, false, false] rfl rfl (by kernel_rfl) (fun _ _ _ h_ => h_) (Or.inl ⟨by rfl, ?_⟩) hHeld ?_ ?_
      rotate_left
      · intro w_ hSw
        (obtain ⟨hz0, hz1, hz2, hz3, hz4⟩ := hSw)
        go_simp
        first | done | with_reducible rfl
      rotate_left
      · simp only [Act.put, List.setIfInBounds_toArray, List.set_cons_zero, List.set_cons_succ]
        rfl
      refine take_ (i := 5) (N := some 13) (v := ?_) (a' := ?_) #[true, true, true, true, true, true, false, false, false, false, false, false, false, false, false, false, false, false, false, false, false, false, false, false, false, false, false, false, false, false, false, false, false, false, false, false, false, false, false, false] rfl rfl (by kernel_rfl) (fun _ _ _ h_ => h_) (Or.inl ⟨by rfl, ?_⟩) hHeld ?_ ?_
      rotate_left
      · intro w_ hSw
        (obtain ⟨hz0, hz1, hz2, hz3, hz4⟩ := hSw)
        go_simp
        first | done | with_reducible rfl
      rotate_left
      · simp only [Act.put, List.setIfInBounds_toArray, List.set_cons_zero, List.set_cons_succ]
        rfl
      refine take_ (i := 6) (N := some 14) (v := ?_) (a' := ?_) #[true, true, true, true, true, true, true, false, false, false, false, false, false, false, false, false, false, false, false, false, false, false, false, false, false, false, false, false, false, false, false, false, false, false, false, false, false, false, false, false] rfl rfl (by kernel_rfl) (fun _ _ _ h_ => h_) (Or.inl ⟨by rfl, ?_⟩) hHeld ?_ ?_
      rotate_left
      · intro w_ hSw
        (obtain ⟨hz0, hz1, hz2, hz3, hz4⟩ := hSw)
        go_simp
        first | done | with_reducible rfl
      rotate_left
      · simp only [Act.put, List.setIfInBounds_toArray, List.set_cons_zero, List.set_cons_succ]
        rfl
      refine take_ (i := 7) (N := some 15) (v := ?_) (a' := ?_) #[true, true, true, true, true, true, true, true, false, false, false, false, false, false, false, false, false, false, false, false, false, false, false, false, false, false, false, false, false, false, false, false, false, false, false, false, false, false, false, false] rfl rfl (by kernel_rfl) (fun _ _ _ h_ => h_) (Or.inl ⟨by rfl, ?_⟩) hHeld ?_ ?_
      rotate_left
      · intro w_ hSw
        (obtain ⟨hz0, hz1, hz2, hz3, hz4⟩ := hSw)
        go_simp
        first | done | with_reducible rfl
      rotate_left
      · simp only [Act.put, List.setIfInBounds_toArray, List.set_cons_zero, List.set_cons_succ]
        rfl
      refine take_ (i := 8) (N := some 16) (v := ?_) (a' := ?_) #[true, true, true, true, true, true, true, true, true, false, false, false, false, false, false, false, false, false, false, false, false, false, false, false, false, false, false, false, false, false, false, false, false, false, false, false, false, false, false, false] rfl rfl (by kernel_rfl) (fun _ _ _ h_ => h_) (Or.inl ⟨by rfl, ?_⟩) hHeld ?_ ?_
      rotate_left
      · intro w_ hSw
        (obtain ⟨hz0, hz1, hz2, hz3, hz4⟩ := hSw)
        go_simp
        first | done | with_reducible rfl
      rotate_left
      · simp only [Act.put, List.setIfInBounds_toArray, List.set_cons_zero, List.set_cons_succ]
        rfl
      refine take_ (i := 9) (N := some 17) (v := ?_) (a' := ?_) #[true, true, true, true, true, true, true, true, true, true, false, false, false, false, false, false, false, false, false, false, false, false, false, false, false, false, false, false, false, false, false, false, false, false, false, false, false, false, false, false] rfl rfl (by kernel_rfl) (fun _ _ _ h_ => h_) (Or.inl ⟨by rfl, ?_⟩) hHeld ?_ ?_
      rotate_left
      · intro w_ hSw
        (obtain ⟨hz0, hz1, hz2, hz3, hz4⟩ := hSw)
        go_simp
        first | done | with_reducible rfl
      rotate_left
      · simp only [Act.put, List.setIfInBounds_toArray, List.set_cons_zero, List.set_cons_succ]
        rfl
      refine take_ (i := 10) (N := some 18) (v := ?_) (a' := ?_) #[true, true, true, true, true, true, true, true, true, true, true, false, false, false, false, false, false, false, false, false, false, false, false, false, false, false, false, false, false, false, false, false, false, false, false, false, false, false, false, false] rfl rfl (by kernel_rfl) (fun _ _ _ h_ => h_) (Or.inl ⟨by rfl, ?_⟩) hHeld ?_ ?_
      rotate_left
      · intro w_ hSw
        (obtain ⟨hz0, hz1, hz2, hz3, hz4⟩ := hSw)
        go_simp
        first | done | with_reducible rfl
      rotate_left
      · simp only [Act.put, List.setIfInBounds_toArray, List.set_cons_zero, List.set_cons_succ]
        rfl
      refine take_ (i := 11) (N := some 19) (v := ?_) (a' := ?_) #[true, true, true, true, true, true, true, true, true, true, true, true, false, false, false, false, false, false, false, false, false, false, false, false, false, false, false, false, false, false, false, false, false, false, false, false, false, false, false, false] rfl rfl (by kernel_rfl) (fun _ _ _ h_ => h_) (Or.inl ⟨by rfl, ?_⟩) hHeld ?_ ?_
      rotate_left
      · intro w_ hSw
        (obtain ⟨hz0, hz1, hz2, hz3, hz4⟩ := hSw)
        go_simp
        first | done | with_reducible rfl
      rotate_left
      · simp only [Act.put, List.setIfInBounds_toArray, List.set_cons_zero, List.set_cons_succ]
        rfl
      refine take_ (i := 12) (N := some 20) (v := ?_) (a' := ?_) #[true, true, true, true, true, true, true, true, true, true, true, true, true, false, false, false, false, false, false, false, false, false, false, false, false, false, false, false, false, false, false, false, false, false, false, false, false, false, false, false] rfl rfl (by kernel_rfl) (fun _ _ _ h_ => h_) (Or.inl ⟨by rfl, ?_⟩) hHeld ?_ ?_
      rotate_left
      · intro w_ hSw
        (obtain ⟨hz0, hz1, hz2, hz3, hz4⟩ := hSw)
        go_simp
        first | done | with_reducible rfl
      rotate_left
      · simp only [Act.put, List.setIfInBounds_toArray, List.set_cons_zero, List.set_cons_succ]
        rfl
      refine take_ (i := 13) (N := some 21) (v := ?_) (a' := ?_) #[true, true, true, true, true, true, true, true, true, true, true, true, true, true, false, false, false, false, false, false, false, false, false, false, false, false, false, false, false, false, false, false, false, false, false, false, false, false, false, false] rfl rfl (by kernel_rfl) (fun _ _ _ h_ => h_) (Or.inl ⟨by rfl, ?_⟩) hHeld ?_ ?_
      rotate_left
      · intro w_ hSw
        (obtain ⟨hz0, hz1, hz2, hz3, hz4⟩ := hSw)
        go_simp
        first | done | with_reducible rfl
      rotate_left
      · simp only [Act.put, List.setIfInBounds_toArray, List.set_cons_zero, List.set_cons_succ]
        rfl
      refine take_ (i := 14) (N := some 22) (v := ?_) (a' := ?_) #[true, true, true, true, true, true, true, true, true, true, true, true, true, true, true, false, false, false, false, false, false, false, false, false, false, false, false, false, false, false, false, false, false, false, false, false, false, false, false, false] rfl rfl (by kernel_rfl) (fun _ _ _ h_ => h_) (Or.inl ⟨by rfl, ?_⟩) hHeld ?_ ?_
      rotate_left
      · intro w_ hSw
        (obtain ⟨hz0, hz1, hz2, hz3, hz4⟩ := hSw)
        go_simp
        first | done | with_reducible rfl
      rotate_left
      · simp only [Act.put, List.setIfInBounds_toArray, List.set_cons_zero, List.set_cons_succ]
        rfl
      refine take_ (i := 15) (N := some 23) (v := ?_) (a' := ?_) #[true, true, true, true, true, true, true, true, true, true, true, true, true, true, true, true, false, false, false, false, false, false, false, false, false, false, false, false, false, false, false, false, false, false, false, false, false, false, false, false] rfl rfl (by kernel_rfl) (fun _ _ _ h_ => h_) (Or.inl ⟨by rfl, ?_⟩) hHeld ?_ ?_
      rotate_left
      · intro w_ hSw
        (obtain ⟨hz0, hz1, hz2, hz3, hz4⟩ := hSw)
        go_simp
        first | done | with_reducible rfl
      rotate_left
      · simp only [Act.put, List.setIfInBounds_toArray, List.set_cons_zero, List.set_cons_succ]
        rfl
      refine take_ (i := 16) (N := some 24) (v := ?_) (a' := ?_) #[true, true, true, true, true, true, true, true, true, true, true, true, true, true, true, true, true, false, false, false, false, false, false, false, false, false, false, false, false, false, false, false, false, false, false, false, false, false, false, false] rfl rfl (by kernel_rfl) (fun _ _ _ h_ => h_) (Or.inl ⟨by rfl, ?_⟩) hHeld ?_ ?_
      rotate_left
      · intro w_ hSw
        (obtain ⟨hz0, hz1, hz2, hz3, hz4⟩ := hSw)
        go_simp
        first | done | with_reducible rfl
      rotate_left
      · simp only [Act.put, List.setIfInBounds_toArray, List.set_cons_zero, List.set_cons_succ]
        rfl
      refine take_ (i := 17) (N := some 25) (v := undef) (a' := ?_) #[true, true, true, true, true, true, true, true, true, true, true, true, true, true, true, true, true, true, false, false, false, false, false, false, false, false, false, false, false, false, false, false, false, false, false, false, false, false, false, false] rfl rfl (by kernel_rfl) (fun _ _ _ h_ => h_) (Or.inr ⟨by rfl, rfl⟩) hHeld ?_ ?_
      rotate_left
      · simp only [Act.put, List.setIfInBounds_toArray, List.set_cons_zero, List.set_cons_succ]
        rfl
      refine take_ (i := 18) (N := some 26) (v := undef) (a' := ?_) #[true, true, true, true, true, true, true, true, true, true, true, true, true, true, true, true, true, true, true, false, false, false, false, false, false, false, false, false, false, false, false, false, false, false, false, false, false, false, false, false] rfl rfl (by kernel_rfl) (fun _ _ _ h_ => h_) (Or.inr ⟨by rfl, rfl⟩) hHeld ?_ ?_
      rotate_left
      · simp only [Act.put, List.setIfInBounds_toArray, List.set_cons_zero, List.set_cons_succ]
        rfl
      refine take_ (i := 19) (N := some 27) (v := undef) (a' := ?_) #[true, true, true, true, true, true, true, true, true, true, true, true, true, true, true, true, true, true, true, true, false, false, false, false, false, false, false, false, false, false, false, false, false, false, false, false, false, false, false, false] rfl rfl (by kernel_rfl) (fun _ _ _ h_ => h_) (Or.inr ⟨by rfl, rfl⟩) hHeld ?_ ?_
      rotate_left
      · simp only [Act.put, List.setIfInBounds_toArray, List.set_cons_zero, List.set_cons_succ]
        rfl
      refine take_ (i := 20) (N := some 28) (v := undef) (a' := ?_) #[true, true, true, true, true, true, true, true, true, true, true, true, true, true, true, true, true, true, true, true, true, false, false, false, false, false, false, false, false, false, false, false, false, false, false, false, false, false, false, false] rfl rfl (by kernel_rfl) (fun _ _ _ h_ => h_) (Or.inr ⟨by rfl, rfl⟩) hHeld ?_ ?_
      rotate_left
      · simp only [Act.put, List.setIfInBounds_toArray, List.set_cons_zero, List.set_cons_succ]
        rfl
      refine take_ (i := 21) (N := some 29) (v := undef) (a' := ?_) #[true, true, true, true, true, true, true, true, true, true, true, true, true, true, true, true, true, true, true, true, true, true, false, false, false, false, false, false, false, false, false, false, false, false, false, false, false, false, false, false] rfl rfl (by kernel_rfl) (fun _ _ _ h_ => h_) (Or.inr ⟨by rfl, rfl⟩) hHeld ?_ ?_
      rotate_left
      · simp only [Act.put, List.setIfInBounds_toArray, List.set_cons_zero, List.set_cons_succ]
        rfl
      refine take_ (i := 22) (N := some 30) (v := undef) (a' := ?_) #[true, true, true, true, true, true, true, true, true, true, true, true, true, true, true, true, true, true, true, true, true, true, true, false, false, false, false, false, false, false, false, false, false, false, false, false, false, false, false, false] rfl rfl (by kernel_rfl) (fun _ _ _ h_ => h_) (Or.inr ⟨by rfl, rfl⟩) hHeld ?_ ?_
      rotate_left
      · simp only [Act.put, List.setIfInBounds_toArray, List.set_cons_zero, List.set_cons_succ]
        rfl
      refine take_ (i := 23) (N := some 31) (v := undef) (a' := ?_) #[true, true, true, true, true, true, true, true, true, true, true, true, true, true, true, true, true, true, true, true, true, true, true, true, false, false, false, false, false, false, false, false, false, false, false, false, false, false, false, false] rfl rfl (by kernel_rfl) (fun _ _ _ h_ => h_) (Or.inr ⟨by rfl, rfl⟩) hHeld ?_ ?_
      rotate_left
      · simp only [Act.put, List.setIfInBounds_toArray, List.set_cons_zero, List.set_cons_succ]
        rfl
      refine take_ (i := 24) (N := some 32) (v := undef) (a' := ?_) #[true, true, true, true, true, true, true, true, true, true, true, true, true, true, true, true, true, true, true, true, true, true, true, true, true, false, false, false, false, false, false, false, false, false, false, false, false, false, false, false] rfl rfl (by kernel_rfl) (fun _ _ _ h_ => h_) (Or.inr ⟨by rfl, rfl⟩) hHeld ?_ ?_
      rotate_left
      · simp only [Act.put, List.setIfInBounds_toArray, List.set_cons_zero, List.set_cons_succ]
        rfl
      refine take_ (i := 25) (N := some 33) (v := undef) (a' := ?_) #[true, true, true, true, true, true, true, true, true, true, true, true, true, true, true, true, true, true, true, true, true, true, true, true, true, true, false, false, false, false, false, false, false, false, false, false, false, false, false, false] rfl rfl (by kernel_rfl) (fun _ _ _ h_ => h_) (Or.inr ⟨by rfl, rfl⟩) hHeld ?_ ?_
      rotate_left
      · simp only [Act.put, List.setIfInBounds_toArray, List.set_cons_zero, List.set_cons_succ]
        rfl
      refine take_ (i := 26) (N := some 34) (v := undef) (a' := ?_) #[true, true, true, true, true, true, true, true, true, true, true, true, true, true, true, true, true, true, true, true, true, true, true, true, true, true, true, false, false, false, false, false, false, false, false, false, false, false, false, false] rfl rfl (by kernel_rfl) (fun _ _ _ h_ => h_) (Or.inr ⟨by rfl, rfl⟩) hHeld ?_ ?_
      rotate_left
      · simp only [Act.put, List.setIfInBounds_toArray, List.set_cons_zero, List.set_cons_succ]
        rfl
      refine take_ (i := 27) (N := some 35) (v := undef) (a' := ?_) #[true, true, true, true, true, true, true, true, true, true, true, true, true, true, true, true, true, true, true, true, true, true, true, true, true, true, true, true, false, false, false, false, false, false, false, false, false, false, false, false] rfl rfl (by kernel_rfl) (fun _ _ _ h_ => h_) (Or.inr ⟨by rfl, rfl⟩) hHeld ?_ ?_
      rotate_left
      · simp only [Act.put, List.setIfInBounds_toArray, List.set_cons_zero, List.set_cons_succ]
        rfl
      refine take_ (i := 28) (N := some 36) (v := undef) (a' := ?_) #[true, true, true, true, true, true, true, true, true, true, true, true, true, true, true, true, true, true, true, true, true, true, true, true, true, true, true, true, true, false, false, false, false, false, false, false, false, false, false, false] rfl rfl (by kernel_rfl) (fun _ _ _ h_ => h_) (Or.inr ⟨by rfl, rfl⟩) hHeld ?_ ?_
      rotate_left
      · simp only [Act.put, List.setIfInBounds_toArray, List.set_cons_zero, List.set_cons_succ]
        rfl
      refine take_ (i := 29) (N := some 37) (v := undef) (a' := ?_) #[true, true, true, true, true, true, true, true, true, true, true, true, true, true, true, true, true, true, true, true, true, true, true, true, true, true, true, true, true, true, false, false, false, false, false, false, false, false, false, false] rfl rfl (by kernel_rfl) (fun _ _ _ h_ => h_) (Or.inr ⟨by rfl, rfl⟩) hHeld ?_ ?_
      rotate_left
      · simp only [Act.put, List.setIfInBounds_toArray, List.set_cons_zero, List.set_cons_succ]
        rfl
      refine take_ (i := 30) (N := some 38) (v := undef) (a' := ?_) #[true, true, true, true, true, true, true, true, true, true, true, true, true, true, true, true, true, true, true, true, true, true, true, true, true, true, true, true, true, true, true, false, false, false, false, false, false, false, false, false] rfl rfl (by kernel_rfl) (fun _ _ _ h_ => h_) (Or.inr ⟨by rfl, rfl⟩) hHeld ?_ ?_
      rotate_left
      · simp only [Act.put, List.setIfInBounds_toArray, List.set_cons_zero, List.set_cons_succ]
        rfl
      refine take_ (i := 31) (N := some 39) (v := undef) (a' := ?_) #[true, true, true, true, true, true, true, true, true, true, true, true, true, true, true, true, true, true, true, true, true, true, true, true, true, true, true, true, true, true, true, true, false, false, false, false, false, false, false, false] rfl rfl (by kernel_rfl) (fun _ _ _ h_ => h_) (Or.inr ⟨by rfl, rfl⟩) hHeld ?_ ?_
      rotate_left
      · simp only [Act.put, List.setIfInBounds_toArray, List.set_cons_zero, List.set_cons_succ]
        rfl
      refine take_ (i := 32) (N := some 40) (v := undef) (a' := ?_) #[true, true, true, true, true, true, true, true, true, true, true, true, true, true, true, true, true, true, true, true, true, true, true, true, true, true, true, true, true, true, true, true, true, false, false, false, false, false, false, false] rfl rfl (by kernel_rfl) (fun _ _ _ h_ => h_) (Or.inr ⟨by rfl, rfl⟩) hHeld ?_ ?_
      rotate_left
      · simp only [Act.put, List.setIfInBounds_toArray, List.set_cons_zero, List.set_cons_succ]
        rfl
      refine take_ (i := 33) (N := some 41) (v := undef) (a' := ?_) #[true, true, true, true, true, true, true, true, true, true, true, true, true, true, true, true, true, true, true, true, true, true, true, true, true, true, true, true, true, true, true, true, true, true, false, false, false, false, false, false] rfl rfl (by kernel_rfl) (fun _ _ _ h_ => h_) (Or.inr ⟨by rfl, rfl⟩) hHeld ?_ ?_
      rotate_left
      · simp only [Act.put, List.setIfInBounds_toArray, List.set_cons_zero, List.set_cons_succ]
        rfl
      refine take_ (i := 34) (N := some 42) (v := undef) (a' := ?_) #[true, true, true, true, true, true, true, true, true, true, true, true, true, true, true, true, true, true, true, true, true, true, true, true, true, true, true, true, true, true, true, true, true, true, true, false, false, false, false, false] rfl rfl (by kernel_rfl) (fun _ _ _ h_ => h_) (Or.inr ⟨by rfl, rfl⟩) hHeld ?_ ?_
      rotate_left
      · simp only [Act.put, List.setIfInBounds_toArray, List.set_cons_zero, List.set_cons_succ]
        rfl
      refine take_ (i := 35) (N := some 43) (v := undef) (a' := ?_) #[true, true, true, true, true, true, true, true, true, true, true, true, true, true, true, true, true, true, true, true, true, true, true, true, true, true, true, true, true, true, true, true, true, true, true, true, false, false, false, false] rfl rfl (by kernel_rfl) (fun _ _ _ h_ => h_) (Or.inr ⟨by rfl, rfl⟩) hHeld ?_ ?_
      rotate_left
      · simp only [Act.put, List.setIfInBounds_toArray, List.set_cons_zero, List.set_cons_succ]
        rfl
      refine take_ (i := 36) (N := some 44) (v := undef) (a' := ?_) #[true, true, true, true, true, true, true, true, true, true, true, true, true, true, true, true, true, true, true, true, true, true, true, true, true, true, true, true, true, true, true, true, true, true, true, true, true, false, false, false] rfl rfl (by kernel_rfl) (fun _ _ _ h_ => h_) (Or.inr ⟨by rfl, rfl⟩) hHeld ?_ ?_
      rotate_left
      · simp only [Act.put, List.setIfInBounds_toArray, List.set_cons_zero, List.set_cons_succ]
        rfl
      refine take_ (i := 37) (N := some 45) (v := undef) (a' := ?_) #[true, true, true, true, true, true, true, true, true, true, true, true, true, true, true, true, true, true, true, true, true, true, true, true, true, true, true, true, true, true, true, true, true, true, true, true, true, true, false, false] rfl rfl (by kernel_rfl) (fun _ _ _ h_ => h_) (Or.inr ⟨by rfl, rfl⟩) hHeld ?_ ?_
      rotate_left
      · simp only [Act.put, List.setIfInBounds_toArray, List.set_cons_zero, List.set_cons_succ]
        rfl
      refine take_ (i := 38) (N := some 46) (v := ?_) (a' := ?_) #[true, true, true, true, true, true, true, true, true, true, true, true, true, true, true, true, true, true, true, true, true, true, true, true, true, true, true, true, true, true, true, true, true, true, true, true, true, true, true, false] rfl rfl (by kernel_rfl) (fun _ _ _ h_ => h_) (Or.inl ⟨by rfl, ?_⟩) hHeld ?_ ?_
      rotate_left
      · intro w_ hSw
        (obtain ⟨hz0, hz1, hz2, hz3, hz4⟩ := hSw)
        go_simp
        first | done | with_reducible rfl
      rotate_left
      · simp only [Act.put, List.setIfInBounds_toArray, List.set_cons_zero, List.set_cons_succ]
        rfl
      refine take_ (i := 39) (N := some 47) (v := ?_) (a' := ?_) #[true, true, true, true, true, true, true, true, true, true, true, true, true, true, true, true, true, true, true, true, true, true, true, true, true, true, true, true, true, true, true, true, true, true, true, true, true, true, true, true] rfl rfl (by kernel_rfl) (fun _ _ _ h_ => h_) (Or.inl ⟨by rfl, ?_⟩) hHeld ?_ ?_
      rotate_left
      · intro w_ hSw
        (obtain ⟨hz0, hz1, hz2, hz3, hz4⟩ := hSw)
        go_simp
        first | done | with_reducible rfl
      rotate_left
      · simp only [Act.put, List.setIfInBounds_toArray, List.set_cons_zero, List.set_cons_succ]
        rfl
      refine done_ (by kernel_rfl) ?_
      have hq0 : (w.alloc (.cells #[.slice A1 xs.length c1, .int .i64 y] 103)).drew.cell? ⟨w.heap.size, 0, none⟩ = some (.slice A1 xs.length c1) := ZA.out
      have H7 := Aside0.mk (show Below w.heap.size w (w.alloc (.cells #[.slice A1 xs.length c1, .int .i64 y] 103)).drew from Below.grown BL.out (cR.drew1 _) (below_size BL.out) (fun k e => by cases e))
      have HR7 := Aside0.mk (show cS.RD ((w.alloc (.cells #[.slice A1 xs.length c1, .int .i64 y] 103)).drew) (.slice A1 xs.length c1) xs from HR.out.below H7.out)
      generalize World.drew _ = w5 at hq0 H7 HR7 ⊢
      clear z0 z1 z2 z3 z4 d1t cyt p1 p2 p3 HP1
      have hlt5 := below_size H7.out
      have hq1 := fun o => Lib.cell?_alloc_some o hq0
      go_wp2_with (refine (cS.cat3 HR7.out H5.out (-1) (-2)).mono ?_; rintro e w6 ⟨v0, rfl, hr6, hb6⟩; have H6 := Aside0.mk hr6; have HB6 := Aside0.mk (Below.trans H7.out (Below.mono hb6 hlt5)); clear hr6 hb6)
      go_ret
      exact ⟨_, rfl, by rw [HM.out, if_pos HP.out]; exact H6.out, HB6.out⟩
    · have d1t : (a0 < b0) = False := eq_false d1
      by_cases d2 : a0 = b0
      · have d2t : (a0 == b0) = true := by rw [beq_iff_eq]; exact d2
        subst d2
        cases b1 with
        | true =>
          cases right with
          | true =>
            have HP := Aside0.mk (show cS.markp l0 y x true = false by rw [HP1.out]; simp [cyt, d1])
            clear d1
            go_enter Try.func58, Try.ntmps58
            go_wp2
            refine start_ (n := 40) (S := (fun w' => w'.cell? ⟨w.heap.size, 1, none⟩ = some (.int .i64 y) ∧ w'.cell? ⟨g, 0, none⟩ = some (.slice (some adx) l0.length c0) ∧ w'.cell? (adx.add (y.toNat * 2)) = some (.int .i64 a0) ∧ w'.cell? (adx.add (x.toNat * 2)) = some (.int .i64 a0) ∧ w'.cell? ⟨(adx.add (x.toNat * 2)).block, (adx.add (x.toNat * 2)).off + 1, none⟩ = some (.bool true))) (ds := []) #[false, false, false, false, false, false, false, false, false, false, false, false, false, false, false, false, false, false, false, false, false, false, false, false, false, false, false, false, false, false, false, false, false, false, false, false, false, false, false, false] (by kernel_rfl) rfl rfl (⟨z0, z1, z2, z3, z4⟩) (fun hHeld => ?_)
            refine take_ (i := 0) (N := some 8) (v := ?_) (a' := ?_) #[true, false, false, false, false, false, false, false, false, false, false, false, false, false, false, false, false, false, false, false, false, false, false, false, false, false, false, false, false, false, false, false, false, false, false, false, false, false, false, false] rfl rfl (by kernel_rfl) (fun _ _ _ h_ => h_) (Or.inl ⟨by rfl, ?_⟩) hHeld ?_ ?_
            rotate_left
            · intro w_ hSw
              (obtain ⟨hz0, hz1, hz2, hz3, hz4⟩ := hSw)
              go_simp
              first | done | with_reducible rfl
            rotate_left
            · simp only [Act.put, List.setIfInBounds_toArray, List.set_cons_zero, List.set_cons_succ]
              rfl
            refine take_ (i := 1) (N := some 9) (v := ?_) (a' := ?_) #[true, true, false, false, false, false, false, false, false, false, false, false, false, false, false, false, false, false, false, false, false, false, false, false, false, false, false, false, false, false, false, false, false, false, false, false, false, false, false, false] rfl rfl (by kernel_rfl) (fun _ _ _ h_ => h_) (Or.inl ⟨by rfl, ?_⟩) hHeld ?_ ?_
            rotate_left
            · intro w_ hSw
              (obtain ⟨hz0, hz1, hz2, hz3, hz4⟩ := hSw)
              go_simp
              first | done | with_reducible rfl
            rotate_left
            · simp only [Act.put, List.setIfInBounds_toArray, List.set_cons_zero, List.set_cons_succ]
              rfl
            refine take_ (i := 2) (N := some 10) (v := ?_) (a' := ?_) #[true, true, true, false, false, false, false, false, false, false, false, false, false, false, false, false, false, false, false, false, false, false, false, false, false, false, false, false, false, false, false, false, false, false, false, false, false, false, false, false] rfl rfl (by kernel_rfl) (fun _ _ _ h_ => h_) (Or.inl ⟨by rfl, ?_⟩) hHeld ?_ ?_
            rotate_left
            · intro w_ hSw
              (obtain ⟨hz0, hz1, hz2, hz3, hz4⟩ := hSw)
              go_simp
              first | done | with_reducible rfl
            rotate_left
            · simp only [Act.put, List.setIfInBounds_toArray, List.set_cons_zero, List.set_cons_succ]
              rfl
            refine take_ (i := 3) (N := some 11) (v := ?_) (a' := ?_) #[true, true, true, true, false, false, false, false, false, false, false, false, false, false, false, false, false, false, false, false, false, false, false, false, false, false, false, false, false, false, false, false, false, false, false, false, false, false, false, false] rfl rfl (by kernel_rfl) (fun _ _ _ h_ => h_) (Or.inl ⟨by rfl, ?_⟩) hHeld ?_ ?_
            rotate_left
            · intro w_ hSw
              (obtain ⟨hz0, hz1, hz2, hz3, hz4⟩ := hSw)
              go_simp
              first | done | with_reducible rfl
            rotate_left
            · simp only [Act.put, List.setIfInBounds_toArray, List.set_cons_zero, List.set_cons_succ]
              rfl
            refine take_ (i := 4) (N := some 12) (v := ?_) (a' := ?_) #[true, true, true, true, true, false, false, false, false, false, false, false, false, false, false, false, false, false, false, false, false, false, false, false, false, false, false, false, false, false, false, false, false, false, false, false, false, false, false, false] rfl rfl (by kernel_rfl) (fun _ _ _ h_ => h_) (Or.inl ⟨by rfl, ?_⟩) hHeld ?_ ?_
            rotate_left
            · intro w_ hSw
              (obtain ⟨hz0, hz1, hz2, hz3, hz4⟩ := hSw)
              go_simp
              first | done | with_reducible rfl
            rotate_left
            · simp only [Act.put, List.setIfInBounds_toArray, List.set_cons_zero, List.set_cons_succ]
              rfl
            refine take_ (i := 5) (N := some 13) (v := ?_) (a' := ?_) #[true, true, true, true, true, true, false, false, false, false, false, false, false, false, false, false, false, false, false, false, false, false, false, false, false, false, false, false, false, false, false, false, false, false, false, false, false, false, false, false] rfl rfl (by kernel_rfl) (fun _ _ _ h_ => h_) (Or.inl ⟨by rfl, ?_⟩) hHeld ?_ ?_
            rotate_left
            · intro w_ hSw
              (obtain ⟨hz0, hz1, hz2, hz3, hz4⟩ := hSw)
              go_simp
              first | done | with_reducible rfl
            rotate_left
            · simp only [Act.put, List.setIfInBounds_toArray, List.set_cons_zero, List.set_cons_succ]
              rfl
            refine take_ (i := 6) (N := some 14) (v := ?_) (a' := ?_) #[true, true, true, true, true, true, true, false, false, false, false, false, false, false, false, false, false, false, false, false, false, false, false, false, false, false, false, false, false, false, false, false, false, false, false, false, false, false, false, false] rfl rfl (by kernel_rfl) (fun _ _ _ h_ => h_) (Or.inl ⟨by rfl, ?_⟩) hHeld ?_ ?_
            rotate_left
            · intro w_ hSw
              (obtain ⟨hz0, hz1, hz2, hz3, hz4⟩ := hSw)
              go_simp
              first | done | with_reducible rfl
            rotate_left
            · simp only [Act.put, List.setIfInBounds_toArray, List.set_cons_zero, List.set_cons_succ]
              rfl
            refine take_ (i := 7) (N := some 15) (v := ?_) (a' := ?_) #[true, true, true, true, true, true, true, true, false, false, false, false, false, false, false, false, false, false, false, false, false, false, false, false, false, false, false, false, false, false, false, false, false, false, false, false, false, false, false, false] rfl rfl (by kernel_rfl) (fun _ _ _ h_ => h_) (Or.inl ⟨by rfl, ?_⟩) hHeld ?_ ?_
            rotate_left
            · intro w_ hSw
              (obtain ⟨hz0, hz1, hz2, hz3, hz4⟩ := hSw)
              go_simp
              first | done | with_reducible rfl
            rotate_left
            · simp only [Act.put, List.setIfInBounds_toArray, List.set_cons_zero, List.set_cons_succ]
              rfl
            refine take_ (i := 8) (N := some 16) (v := ?_) (a' := ?_) #[true, true, true, true, true, true, true, true, true, false, false, false, false, false, false, false, false, false, false, false, false, false, false, false, false, false, false, false, false, false, false, false, false, false, false, false, false, false, false, false] rfl rfl (by kernel_rfl) (fun _ _ _ h_ => h_) (Or.inl ⟨by rfl, ?_⟩) hHeld ?_ ?_
            rotate_left
            · intro w_ hSw
              (obtain ⟨hz0, hz1, hz2, hz3, hz4⟩ := hSw)
              go_simp
              first | done | with_reducible rfl
            rotate_left
            · simp only [Act.put, List.setIfInBounds_toArray, List.set_cons_zero, List.set_cons_succ]
              rfl
            refine take_ (i := 9) (N := some 17) (v := ?_) (a' := ?_) #[true, true, true, true, true, true, true, true, true, true, false, false, false, false, false, false, false, false, false, false, false, false, false, false, false, false, false, false, false, false, false, false, false, false, false, false, false, false, false, false] rfl rfl (by kernel_rfl) (fun _ _ _ h_ => h_) (Or.inl ⟨by rfl, ?_⟩) hHeld ?_ ?_
            rotate_left
            · intro w_ hSw
              (obtain ⟨hz0, hz1, hz2, hz3, hz4⟩ := hSw)
              go_simp
              first | done | with_reducible rfl
            rotate_left
            · simp only [Act.put, List.setIfInBounds_toArray, List.set_cons_zero, List.set_cons_succ]
              rfl
            refine take_ (i := 10) (N := some 18) (v := ?_) (a' := ?_) #[true, true, true, true, true, true, true, true, true, true, true, false, false, false, false, false, false, false, false, false, false, false, false, false, false, false, false, false, false, false, false, false, false, false, false, false, false, false, false, false] rfl rfl (by kernel_rfl) (fun _ _ _ h_ => h_) (Or.inl ⟨by rfl, ?_⟩) hHeld ?_ ?_
            rotate_left
            · intro w_ hSw
              (obtain ⟨hz0, hz1, hz2, hz3, hz4⟩ := hSw)
              go_simp
              first | done | with_reducible rfl
            rotate_left
            · simp only [Act.put, List.setIfInBounds_toArray, List.set_cons_zero, List.set_cons_succ]
              rfl
            refine take_ (i := 11) (N := some 19) (v := ?_) (a' := ?_) #[true, true, true, true, true, true, true, true, true, true, true, true, false, false, false, false, false, false, false, false, false, false, false, false, false, false, false, false, false, false, false, false, false, false, false, false, false, false, false, false] rfl rfl (by kernel_rfl) (fun _ _ _ h_ => h_) (Or.inl ⟨by rfl, ?_⟩) hHeld ?_ ?_
            rotate_left
            · intro w_ hSw
              (obtain ⟨hz0, hz1, hz2, hz3, hz4⟩ := hSw)
              go_simp
              first | done | with_reducible rfl
            rotate_left
            · simp only [Act.put, List.setIfInBounds_toArray, List.set_cons_zero, List.set_cons_succ]
              rfl
            refine take_ (i := 12) (N := some 20) (v := ?_) (a' := ?_) #[true, true, true, true, true, true, true, true, true, true, true, true, true, false, false, false, false, false, false, false, false, false, false, false, false, false, false, false, false, false, false, false, false, false, false, false, false, false, false, false] rfl rfl (by kernel_rfl) (fun _ _ _ h_ => h_) (Or.inl ⟨by rfl, ?_⟩) hHeld ?_ ?_
            rotate_left
            · intro w_ hSw
              (obtain ⟨hz0, hz1, hz2, hz3, hz4⟩ := hSw)
              go_simp
              first | done | with_reducible rfl
            rotate_left
            · simp only [Act.put, List.setIfInBounds_toArray, List.set_cons_zero, List.set_cons_succ]
              rfl
            refine take_ (i := 13) (N := some 21) (v := ?_) (a' := ?_) #[true, true, true, true, true, true, true, true, true, true, true, true, true, true, false, false, false, false, false, false, false, false, false, false, false, false, false, false, false, false, false, false, false, false, false, false, false, false, false, false] rfl rfl (by kernel_rfl) (fun _ _ _ h_ => h_) (Or.inl ⟨by rfl, ?_⟩) hHeld ?_ ?_
            rotate_left
            · intro w_ hSw
              (obtain ⟨hz0, hz1, hz2, hz3, hz4⟩ := hSw)
              go_simp
              first | done | with_reducible rfl
            rotate_left
            · simp only [Act.put, List.setIfInBounds_toArray, List.set_cons_zero, List.set_cons_succ]
              rfl
            refine take_ (i := 14) (N := some 22) (v := ?_) (a' := ?_) #[true, true, true, true, true, true, true, true, true, true, true, true, true, true, true, false, false, false, false, false, false, false, false, false, false, false, false, false, false, false, false, false, false, false, false, false, false, false, false, false] rfl rfl (by kernel_rfl) (fun _ _ _ h_ => h_) (Or.inl ⟨by rfl, ?_⟩) hHeld ?_ ?_
            rotate_left
            · intro w_ hSw
              (obtain ⟨hz0, hz1, hz2, hz3, hz4⟩ := hSw)
              go_simp
              first | done | with_reducible rfl
            rotate_left
            · simp only [Act.put, List.setIfInBounds_toArray, List.set_cons_zero, List.set_cons_succ]
              rfl
            refine take_ (i := 15) (N := some 23) (v := ?_) (a' := ?_) #[true, true, true, true, true, true, true, true, true, true, true, true, true, true, true, true, false, false, false, false, false, false, false, false, false, false, false, false, false, false, false, false, false, false, false, false, false, false, false, false] rfl rfl (by kernel_rfl) (fun _ _ _ h_ => h_) (Or.inl ⟨by rfl, ?_⟩) hHeld ?_ ?_
            rotate_left
            · intro w_ hSw
              (obtain ⟨hz0, hz1, hz2, hz3, hz4⟩ := hSw)
              go_simp
              first | done | with_reducible rfl
            rotate_left
            · simp only [Act.put, List.setIfInBounds_toArray, List.set_cons_zero, List.set_cons_succ]
              rfl
            refine take_ (i := 16) (N := some 24) (v := ?_) (a' := ?_) #[true, true, true, true, true, true, true, true, true, true, true, true, true, true, true, true, true, false, false, false, false, false, false, false, false, false, false, false, false, false, false, false, false, false, false, false, false, false, false, false] rfl rfl (by kernel_rfl) (fun _ _ _ h_ => h_) (Or.inl ⟨by rfl, ?_⟩) hHeld ?_ ?_
            rotate_left
            · intro w_ hSw
              (obtain ⟨hz0, hz1, hz2, hz3, hz4⟩ := hSw)
              go_simp
              first | done | with_reducible rfl
            rotate_left
            · simp only [Act.put, List.setIfInBounds_toArray, List.set_cons_zero, List.set_cons_succ]
              rfl
            refine take_ (i := 17) (N := some 25) (v := ?_) (a' := ?_) #[true, true, true, true, true, true, true, true, true, true, true, true, true, true, true, true, true, true, false, false, false, false, false, false, false, false, false, false, false, false, false, false, false, false, false, false, false, false, false, false] rfl rfl (by kernel_rfl) (fun _ _ _ h_ => h_) (Or.inl ⟨by rfl, ?_⟩) hHeld ?_ ?_
            rotate_left
            · intro w_ hSw
              (obtain ⟨hz0, hz1, hz2, hz3, hz4⟩ := hSw)
              go_simp
              first | done | with_reducible rfl
            rotate_left
            · simp only [Act.put, List.setIfInBounds_toArray, List.set_cons_zero, List.set_cons_succ]
              rfl
            refine take_ (i := 18) (N := some 26) (v := ?_) (a' := ?_) #[true, true, true, true, true, true, true, true, true, true, true, true, true, true, true, true, true, true, true, false, false, false, false, false, false, false, false, false, false, false, false, false, false, false, false, false, false, false, false, false] rfl rfl (by kernel_rfl) (fun _ _ _ h_ => h_) (Or.inl ⟨by rfl, ?_⟩) hHeld ?_ ?_
            rotate_left
            · intro w_ hSw
              (obtain ⟨hz0, hz1, hz2, hz3, hz4⟩ := hSw)
              go_simp
              first | done | with_reducible rfl
            rotate_left
            · simp only [Act.put, List.setIfInBounds_toArray, List.set_cons_zero, List.set_cons_succ]
              rfl
            refine take_ (i := 19) (N := some 27) (v := ?_) (a' := ?_) #[true, true, true, true, true, true, true, true, true, true, true, true, true, true, true, true, true, true, true, true, false, false, false, false, false, false, false, false, false, false, false, false, false, false, false, false, false, false, false, false] rfl rfl (by kernel_rfl) (fun _ _ _ h_ => h_) (Or.inl ⟨by rfl, ?_⟩) hHeld ?_ ?_
            rotate_left
            · intro w_ hSw
              (obtain ⟨hz0, hz1, hz2, hz3, hz4⟩ := hSw)
              go_simp
              first | done | with_reducible rfl
            rotate_left
            · simp only [Act.put, List.setIfInBounds_toArray, List.set_cons_zero, List.set_cons_succ]
              rfl
            refine take_ (i := 20) (N := some 28) (v := ?_) (a' := ?_) #[true, true, true, true, true, true, true, true, true, true, true, true, true, true, true, true, true, true, true, true, true, false, false, false, false, false, false, false, false, false, false, false, false, false, false, false, false, false, false, false] rfl rfl (by kernel_rfl) (fun _ _ _ h_ => h_) (Or.inl ⟨by rfl, ?_⟩) hHeld ?_ ?_
            rotate_left
            · intro w_ hSw
              (obtain ⟨hz0, hz1, hz2, hz3, hz4⟩ := hSw)
              go_simp
              first | done | with_reducible rfl
            rotate_left
            · simp only [Act.put, List.setIfInBounds_toArray, List.set_cons_zero, List.set_cons_succ]
              rfl
            refine take_ (i := 21) (N := some 29) (v := ?_) (a' := ?_) #[true, true, true, true, true, true, true, true, true, true, true, true, true, true, true, true, true, true, true, true, true, true, false, false, false, false, false, false, false, false, false, false, false, false, false, false, false, false, false, false] rfl rfl (by kernel_rfl) (fun _ _ _ h_ => h_) (Or.inl ⟨by rfl, ?_⟩) hHeld ?_ ?_
            rotate_left
            · intro w_ hSw
              (obtain ⟨hz0, hz1, hz2, hz3, hz4⟩ := hSw)
              go_simp
              first | done | with_reducible rfl
            rotate_left
            · simp only [Act.put, List.setIfInBounds_toArray, List.set_cons_zero, List.set_cons_succ]
              rfl
            refine take_ (i := 22) (N := some 30) (v := ?_) (a' := ?_) #[true, true, true, true, true, true, true, true, true, true, true, true, true, true, true, true, true, true, true, true, true, true, true, false, false, false, false, false, false, false, false, false, false, false, false, false, false, false, false, false] rfl rfl (by kernel_rfl) (fun _ _ _ h_ => h_) (Or.inl ⟨by rfl, ?_⟩) hHeld ?_ ?_
            rotate_left
            · intro w_ hSw
              (obtain ⟨hz0, hz1, hz2, hz3, hz4⟩ := hSw)
              go_simp
              first | done | with_reducible rfl
            rotate_left
            · simp only [Act.put, List.setIfInBounds_toArray, List.set_cons_zero, List.set_cons_succ]
              rfl
            refine take_ (i := 23) (N := some 31) (v := ?_) (a' := ?_) #[true, true, true, true, true, true, true, true, true, true, true, true, true, true, true, true, true, true, true, true, true, true, true, true, false, false, false, false, false, false, false, false, false, false, false, false, false, false, false, false] rfl rfl (by kernel_rfl) (fun _ _ _ h_ => h_) (Or.inl ⟨by rfl, ?_⟩) hHeld ?_ ?_
            rotate_left
            · intro w_ hSw
              (obtain ⟨hz0, hz1, hz2, hz3, hz4⟩ := hSw)
              go_simp
              first | done | with_reducible rfl
            rotate_left
            · simp only [Act.put, List.setIfInBounds_toArray, List.set_cons_zero, List.set_cons_succ]
              rfl
            refine take_ (i := 24) (N := some 32) (v := ?_) (a' := ?_) #[true, true, true, true, true, true, true, true, true, true, true, true, true, true, true, true, true, true, true, true, true, true, true, true, true, false, false, false, false, false, false, false, false, false, false, false, false, false, false, false] rfl rfl (by kernel_rfl) (fun _ _ _ h_ => h_) (Or.inl ⟨by rfl, ?_⟩) hHeld ?_ ?_
            rotate_left
            · intro w_ hSw
              (obtain ⟨hz0, hz1, hz2, hz3, hz4⟩ := hSw)
              go_simp
              first | done | with_reducible rfl
            rotate_left
            · simp only [Act.put, List.setIfInBounds_toArray, List.set_cons_zero, List.set_cons_succ]
              rfl
            refine take_ (i := 25) (N := some 33) (v := ?_) (a' := ?_) #[true, true, true, true, true, true, true, true, true, true, true, true, true, true, true, true, true, true, true, true, true, true, true, true, true, true, false, false, false, false, false, false, false, false, false, false, false, false, false, false] rfl rfl (by kernel_rfl) (fun _ _ _ h_ => h_) (Or.inl ⟨by rfl, ?_⟩) hHeld ?_ ?_
            rotate_left
            · intro w_ hSw
              (obtain ⟨hz0, hz1, hz2, hz3, hz4⟩ := hSw)
              go_simp
              first | done | with_reducible rfl
            rotate_left
            · simp only [Act.put, List.setIfInBounds_toArray, List.set_cons_zero, List.set_cons_succ]
              rfl
            refine take_ (i := 26) (N := some 34) (v := ?_) (a' := ?_) #[true, true, true, true, true, true, true, true, true, true, true, true, true, true, true, true, true, true, true, true, true, true, true, true, true, true, true, false, false, false, false, false, false, false, false, false, false, false, false, false] rfl rfl (by kernel_rfl) (fun _ _ _ h_ => h_) (Or.inl ⟨by rfl, ?_⟩) hHeld ?_ ?_
            rotate_left
            · intro w_ hSw
              (obtain ⟨hz0, hz1, hz2, hz3, hz4⟩ := hSw)
              go_simp
              first | done | with_reducible rfl
            rotate_left
            · simp only [Act.put, List.setIfInBounds_toArray, List.set_cons_zero, List.set_cons_succ]
              rfl
            refine take_ (i := 27) (N := some 35) (v := ?_) (a' := ?_) #[true, true, true, true, true, true, true, true, true, true, true, true, true, true, true, true, true, true, true, true, true, true, true, true, true, true, true, true, false, false, false, false, false, false, false, false, false, false, false, false] rfl rfl (by kernel_rfl) (fun _ _ _ h_ => h_) (Or.inl ⟨by rfl, ?_⟩) hHeld ?_ ?_
            rotate_left
            · intro w_ hSw
              (obtain ⟨hz0, hz1, hz2, hz3, hz4⟩ := hSw)
              go_simp
              first | done | with_reducible rfl
            rotate_left
            · simp only [Act.put, List.setIfInBounds_toArray, List.set_cons_zero, List.set_cons_succ]
              rfl
            refine take_ (i := 28) (N := some 36) (v := ?_) (a' := ?_) #[true, true, true, true, true, true, true, true, true, true, true, true, true, true, true, true, true, true, true, true, true, true, true, true, true, true, true, true, true, false, false, false, false, false, false, false, false, false, false, false] rfl rfl (by kernel_rfl) (fun _ _ _ h_ => h_) (Or.inl ⟨by rfl, ?_⟩) hHeld ?_ ?_
            rotate_left
            · intro w_ hSw
              (obtain ⟨hz0, hz1, hz2, hz3, hz4⟩ := hSw)
              go_simp
              first | done | with_reducible rfl
            rotate_left
            · simp only [Act.put, List.setIfInBounds_toArray, List.set_cons_zero, List.set_cons_succ]
              rfl
            refine take_ (i := 29) (N := some 37) (v := ?_) (a' := ?_) #[true, true, true, true, true, true, true, true, true, true, true, true, true, true, true, true, true, true, true, true, true, true, true, true, true, true, true, true, true, true, false, false, false, false, false, false, false, false, false, false] rfl rfl (by kernel_rfl) (fun _ _ _ h_ => h_) (Or.inl ⟨by rfl, ?_⟩) hHeld ?_ ?_
            rotate_left
            · intro w_ hSw
              (obtain ⟨hz0, hz1, hz2, hz3, hz4⟩ := hSw)
              go_simp
              first | done | with_reducible rfl
            rotate_left
            · simp only [Act.put, List.setIfInBounds_toArray, List.set_cons_zero, List.set_cons_succ]
              rfl
            refine take_ (i := 30) (N := some 38) (v := ?_) (a' := ?_) #[true, true, true, true, true, true, true, true, true, true, true, true, true, true, true, true, true, true, true, true, true, true, true, true, true, true, true, true, true, true, true, false, false, false, false, false, false, false, false, false] rfl rfl (by kernel_rfl) (fun _ _ _ h_ => h_) (Or.inl ⟨by rfl, ?_⟩) hHeld ?_ ?_
            rotate_left
            · intro w_ hSw
              (obtain ⟨hz0, hz1, hz2, hz3, hz4⟩ := hSw)
              go_simp
              first | done | with_reducible rfl
            rotate_left
            · simp only [Act.put, List.setIfInBounds_toArray, List.set_cons_zero, List.set_cons_succ]
              rfl
            refine take_ (i := 31) (N := some 39) (v := ?_) (a' := ?_) #[true, true, true, true, true, true, true, true, true, true, true, true, true, true, true, true, true, true, true, true, true, true, true, true, true, true, true, true, true, true, true, true, false, false, false, false, false, false, false, false] rfl rfl (by kernel_rfl) (fun _ _ _ h_ => h_) (Or.inl ⟨by rfl, ?_⟩) hHeld ?_ ?_
            rotate_left
            · intro w_ hSw
              (obtain ⟨hz0, hz1, hz2, hz3, hz4⟩ := hSw)
              go_simp
              first | done | with_reducible rfl
            rotate_left
            · simp only [Act.put, List.setIfInBounds_toArray, List.set_cons_zero, List.set_cons_succ]
              rfl
            refine take_ (i := 32) (N := some 40) (v := ?_) (a' := ?_) #[true, true, true, true, true, true, true, true, true, true, true, true, true, true, true, true, true, true, true, true, true, true, true, true, true, true, true, true, true, true, true, true, true, false, false, false, false, false, false, false] rfl rfl (by kernel_rfl) (fun _ _ _ h_ => h_) (Or.inl ⟨by rfl, ?_⟩) hHeld ?_ ?_
            rotate_left
            · intro w_ hSw
              (obtain ⟨hz0, hz1, hz2, hz3, hz4⟩ := hSw)
              go_simp
              first | done | with_reducible rfl
            rotate_left
            · simp only [Act.put, List.setIfInBounds_toArray, List.set_cons_zero, List.set_cons_succ]
              rfl
            refine take_ (i := 33) (N := some 41) (v := ?_) (a' := ?_) #[true, true, true, true, true, true, true, true, true, true, true, true, true, true, true, true, true, true, true, true, true, true, true, true, true, true, true, true, true, true, true, true, true, true, false, false, false, false, false, false] rfl rfl (by kernel_rfl) (fun _ _ _ h_ => h_) (Or.inl ⟨by rfl, ?_⟩) hHeld ?_ ?_
            rotate_left
            · intro w_ hSw
              (obtain ⟨hz0, hz1, hz2, hz3, hz4⟩ := hSw)
              go_simp
              first | done | with_reducible rfl
            rotate_left
            · simp only [Act.put, List.setIfInBounds_toArray, List.set_cons_zero, List.set_cons_succ]
              rfl
            refine take_ (i := 34) (N := some 42) (v := ?_) (a' := ?_) #[true, true, true, true, true, true, true, true, true, true, true, true, true, true, true, true, true, true, true, true, true, true, true, true, true, true, true, true, true, true, true, true, true, true, true, false, false, false, false, false] rfl rfl (by kernel_rfl) (fun _ _ _ h_ => h_) (Or.inl ⟨by rfl, ?_⟩) hHeld ?_ ?_
            rotate_left
            · intro w_ hSw
              (obtain ⟨hz0, hz1, hz2, hz3, hz4⟩ := hSw)
              go_simp
              first | done | with_reducible rfl
            rotate_left
            · simp only [Act.put, List.setIfInBounds_toArray, List.set_cons_zero, List.set_cons_succ]
              rfl
            refine take_ (i := 35) (N := some 43) (v := ?_) (a' := ?_) #[true, true, true, true, true, true, true, true, true, true, true, true, true, true, true, true, true, true, true, true, true, true, true, true, true, true, true, true, true, true, true, true, true, true, true, true, false, false, false, false] rfl rfl (by kernel_rfl) (fun _ _ _ h_ => h_) (Or.inl ⟨by rfl, ?_⟩) hHeld ?_ ?_
            rotate_left
            · intro w_ hSw
              (obtain ⟨hz0, hz1, hz2, hz3, hz4⟩ := hSw)
              go_simp
              first | done | with_reducible rfl
            rotate_left
            · simp only [Act.put, List.setIfInBounds_toArray, List.set_cons_zero, List.set_cons_succ]
              rfl
            refine take_ (i := 36) (N := some 44) (v := ?_) (a' := ?_) #[true, true, true, true, true, true, true, true, true, true, true, true, true, true, true, true, true, true, true, true, true, true, true, true, true, true, true, true, true, true, true, true, true, true, true, true, true, false, false, false] rfl rfl (by kernel_rfl) (fun _ _ _ h_ => h_) (Or.inl ⟨by rfl, ?_⟩) hHeld ?_ ?_
            rotate_left
            · intro w_ hSw
              (obtain ⟨hz0, hz1, hz2, hz3, hz4⟩ := hSw)
              go_simp
              first | done | with_reducible rfl
            rotate_left
            · simp only [Act.put, List.setIfInBounds_toArray, List.set_cons_zero, List.set_cons_succ]
              rfl
            refine take_ (i := 37) (N := some 45) (v := ?_) (a' := ?_) #[true, true, true, true, true, true, true, true, true, true, true, true, true, true, true, true, true, true, true, true, true, true, true, true, true, true, true, true, true, true, true, true, true, true, true, true, true, true, false, false] rfl rfl (by kernel_rfl) (fun _ _ _ h_ => h_) (Or.inl ⟨by rfl, ?_⟩) hHeld ?_ ?_
            rotate_left
            · intro w_ hSw
              (obtain ⟨hz0, hz1, hz2, hz3, hz4⟩ := hSw)
              go_simp
              first | done | with_reducible rfl
            rotate_left
            · simp only [Act.put, List.setIfInBounds_toArray, List.set_cons_zero, List.set_cons_succ]
              rfl
            refine take_ (i := 38) (N := some 46) (v := ?_) (a' := ?_) #[true, true, true, true, true, true, true, true, true, true, true, true, true, true, true, true, true, true, true, true, true, true, true, true, true, true, true, true, true, true, true, true, true, true, true, true, true, true, true, false] rfl rfl (by kernel_rfl) (fun _ _ _ h_ => h_) (Or.inl ⟨by rfl, ?_⟩) hHeld ?_ ?_
            rotate_left
            · intro w_ hSw
              (obtain ⟨hz0, hz1, hz2, hz3, hz4⟩ := hSw)
              go_simp
              first | done | with_reducible rfl
            rotate_left
            · simp only [Act.put, List.setIfInBounds_toArray, List.set_cons_zero, List.set_cons_succ]
              rfl
            refine take_ (i := 39) (N := some 47) (v := ?_) (a' := ?_) #[true, true, true, true, true, true, true, true, true, true, true, true, true, true, true, true, true, true, true, true, true, true, true, true, true, true, true, true, true, true, true, true, true, true, true, true, true, true, true, true] rfl rfl (by kernel_rfl) (fun _ _ _ h_ => h_) (Or.inl ⟨by rfl, ?_⟩) hHeld ?_ ?_
            rotate_left
            · intro w_ hSw
              (obtain ⟨hz0, hz1, hz2, hz3, hz4⟩ := hSw)
              go_simp
              first | done | with_reducible rfl
            rotate_left
            · simp only [Act.put, List.setIfInBounds_toArray, List.set_cons_zero, List.set_cons_succ]
              rfl
            refine done_ (by kernel_rfl) ?_
            have hq0 : (w.alloc (.cells #[.slice A1 xs.length c1, .int .i64 y] 103)).drew.cell? ⟨w.heap.size, 0, none⟩ = some (.slice A1 xs.length c1) := ZA.out
            have H7 := Aside0.mk (show Below w.heap.size w (w.alloc (.cells #[.slice A1 xs.length c1, .int .i64 y] 103)).drew from Below.grown BL.out (cR.drew1 _) (below_size BL.out) (fun k e => by cases e))
            have HR7 := Aside0.mk (show cS.RD ((w.alloc (.cells #[.slice A1 xs.length c1, .int .i64 y] 103)).drew) (.slice A1 xs.length c1) xs from HR.out.below H7.out)
            generalize World.drew _ = w5 at hq0 H7 HR7 ⊢
            clear z0 z1 z2 z3 z4 d1t cyt p1 p2 p3 HP1 d2t
            go_wp2
            go_ret
            exact ⟨_, rfl, by rw [HM.out, if_neg (by rw [HP.out]; simp)]; exact HR7.out, H7.out⟩
          | false =>
            have HP := Aside0.mk (show cS.markp l0 y x false = true by rw [HP1.out]; simp [cyt, d1])
            clear d1
            go_enter Try.func58, Try.ntmps58
            go_wp2
            refine start_ (n := 40) (S := (fun w' => w'.cell? ⟨w.heap.size, 1, none⟩ = some (.int .i64 y) ∧ w'.cell? ⟨g, 0, none⟩ = some (.slice (some adx) l0.length c0) ∧ w'.cell? (adx.add (y.toNat * 2)) = some (.int .i64 a0) ∧ w'.cell? (adx.add (x.toNat * 2)) = some (.int .i64 a0) ∧ w'.cell? ⟨(adx.add (x.toNat * 2)).block, (adx.add (x.toNat * 2)).off + 1, none⟩ = some (.bool true))) (ds := []) #[false, false, false, false, false, false, false, false, false, false, false, false, false, false, false, false, false, false, false, false, false, false, false, false, false, false, false, false, false, false, false, false, false, false, false, false, false, false, false, false] (by kernel_rfl) rfl rfl (⟨z0, z1, z2, z3, z4⟩) (fun hHeld => ?_)
            refine take_ (i := 0) (N := some 8) (v := ?_) (a' := ?_) #[true, false, false, false, false, false, false, false, false, false, false, false, false, false, false, false, false, false, false, false, false, false, false, false, false, false, false, false, false, false, false, false, false, false, false, false, false, false, false, false] rfl rfl (by kernel_rfl) (fun _ _ _ h_ => h_) (Or.inl ⟨by rfl, ?_⟩) hHeld ?_ ?_
            rotate_left
            · intro w_ hSw
              (obtain ⟨hz0, hz1, hz2, hz3, hz4⟩ := hSw)
              go_simp
              first | done | with_reducible rfl
            rotate_left
            · simp only [Act.put, List.setIfInBounds_toArray, List.set_cons_zero, List.set_cons_succ]
              rfl
            refine take_ (i := 1) (N := some 9) (v := ?_) (a' := ?_) #[true, true, false, false, false, false, false, false, false, false, false, false, false, false, false, false, false, false, false, false, false, false, false, false, false, false, false, false, false, false, false, false, false, false, false, false, false, false, false, false] rfl rfl (by kernel_rfl) (fun _ _ _ h_ => h_) (Or.inl ⟨by rfl, ?_⟩) hHeld ?_ ?_
            rotate_left
            · intro w_ hSw
              (obtain ⟨hz0, hz1, hz2, hz3, hz4⟩ := hSw)
              go_simp
              first | done | with_reducible rfl
            rotate_left
            · simp only [Act.put, List.setIfInBounds_toArray, List.set_cons_zero, List.set_cons_succ]
              rfl
            refine take_ (i := 2) (N := some 10) (v := ?_) (a' := ?_) #[true, true, true, false, false, false, false, false, false, false, false, false, false, false, false, false, false, false, false, false, false, false, false, false, false, false, false, false, false, false, false, false, false, false, false, false, false, false, false, false] rfl rfl (by kernel_rfl) (fun _ _ _ h_ => h_) (Or.inl ⟨by rfl, ?_⟩) hHeld ?_ ?_
            rotate_left
            · intro w_ hSw
              (obtain ⟨hz0, hz1, hz2, hz3, hz4⟩ := hSw)
              go_simp
              first | done | with_reducible rfl
            rotate_left
            · simp only [Act.put, List.setIfInBounds_toArray, List.set_cons_zero, List.set_cons_succ]
              rfl
            refine take_ (i := 3) (N := some 11) (v := ?_) (a' := ?_) #[true, true, true, true, false, false, false, false, false, false, false, false, false, false, false, false, false, false, false, false, false, false, false, false, false, false, false, false, false, false, false, false, false, false, false, false, false, false, false, false] rfl rfl (by kernel_rfl) (fun _ _ _ h_ => h_) (Or.inl ⟨by rfl, ?_⟩) hHeld ?_ ?_
            rotate_left
            · intro w_ hSw
              (obtain ⟨hz0, hz1, hz2, hz3, hz4⟩ := hSw)
              go_simp
              first | done | with_reducible rfl
            rotate_left
            · simp only [Act.put, List.setIfInBounds_toArray, List.set_cons_zero, List.set_cons_succ]
              rfl
            refine take_ (i := 4) (N := some 12) (v := ?_) (a' := ?_) #[true, true, true, true, true, false, false, false, false, false, false, false, false, false, false, false, false, false, false, false, false, false, false, false, false, false, false, false, false, false, false, false, false, false, false, false, false, false, false, false] rfl rfl (by kernel_rfl) (fun _ _ _ h_ => h_) (Or.inl ⟨by rfl, ?_⟩) hHeld ?_ ?_
            rotate_left
            · intro w_ hSw
              (obtain ⟨hz0, hz1, hz2, hz3, hz4⟩ := hSw)
              go_simp
              first | done | with_reducible rfl
            rotate_left
            · simp only [Act.put, List.setIfInBounds_toArray, List.set_cons_zero, List.set_cons_succ]
              rfl
            refine take_ (i := 5) (N := some 13) (v := ?_) (a' := ?_) #[true, true, true, true, true, true, false, false, false, false, false, false, false, false, false, false, false, false, false, false, false, false, false, false, false, false, false, false, false, false, false, false, false, false, false, false, false, false, false, false] rfl rfl (by kernel_rfl) (fun _ _ _ h_ => h_) (Or.inl ⟨by rfl, ?_⟩) hHeld ?_ ?_
            rotate_left
            · intro w_ hSw
              (obtain ⟨hz0, hz1, hz2, hz3, hz4⟩ := hSw)
              go_simp
              first | done | with_reducible rfl
            rotate_left
            · simp only [Act.put, List.setIfInBounds_toArray, List.set_cons_zero, List.set_cons_succ]
              rfl
            refine take_ (i := 6) (N := some 14) (v := ?_) (a' := ?_) #[true, true, true, true, true, true, true, false, false, false, false, false, false, false, false, false, false, false, false, false, false, false, false, false, false, false, false, false, false, false, false, false, false, false, false, false, false, false, false, false] rfl rfl (by kernel_rfl) (fun _ _ _ h_ => h_) (Or.inl ⟨by rfl, ?_⟩) hHeld ?_ ?_
            rotate_left
            · intro w_ hSw
              (obtain ⟨hz0, hz1, hz2, hz3, hz4⟩ := hSw)
              go_simp
              first | done | with_reducible rfl
            rotate_left
            · simp only [Act.put, List.setIfInBounds_toArray, List.set_cons_zero, List.set_cons_succ]
              rfl
            refine take_ (i := 7) (N := some 15) (v := ?_) (a' := ?_) #[true, true, true, true, true, true, true, true, false, false, false, false, false, false, false, false, false, false, false, false, false, false, false, false, false, false, false, false, false, false, false, false, false, false, false, false, false, false, false, false] rfl rfl (by kernel_rfl) (fun _ _ _ h_ => h_) (Or.inl ⟨by rfl, ?_⟩) hHeld ?_ ?_
            rotate_left
            · intro w_ hSw
              (obtain ⟨hz0, hz1, hz2, hz3, hz4⟩ := hSw)
              go_simp
              first | done | with_reducible rfl
            rotate_left
            · simp only [Act.put, List.setIfInBounds_toArray, List.set_cons_zero, List.set_cons_succ]
              rfl
            refine take_ (i := 8) (N := some 16) (v := ?_) (a' := ?_) #[true, true, true, true, true, true, true, true, true, false, false, false, false, false, false, false, false, false, false, false, false, false, false, false, false, false, false, false, false, false, false, false, false, false, false, false, false, false, false, false] rfl rfl (by kernel_rfl) (fun _ _ _ h_ => h_) (Or.inl ⟨by rfl, ?_⟩) hHeld ?_ ?_
            rotate_left
            · intro w_ hSw
              (obtain ⟨hz0, hz1, hz2, hz3, hz4⟩ := hSw)
              go_simp
              first | done | with_reducible rfl
            rotate_left
            · simp only [Act.put, List.setIfInBounds_toArray, List.set_cons_zero, List.set_cons_succ]
              rfl
            refine take_ (i := 9) (N := some 17) (v := ?_) (a' := ?_) #[true, true, true, true, true, true, true, true, true, true, false, false, false, false, false, false, false, false, false, false, false, false, false, false, false, false, false, false, false, false, false, false, false, false, false, false, false, false, false, false] rfl rfl (by kernel_rfl) (fun _ _ _ h_ => h_) (Or.inl ⟨by rfl, ?_⟩) hHeld ?_ ?_
            rotate_left
            · intro w_ hSw
              (obtain ⟨hz0, hz1, hz2, hz3, hz4⟩ := hSw)
              go_simp
              first | done | with_reducible rfl
            rotate_left
            · simp only [Act.put, List.setIfInBounds_toArray, List.set_cons_zero, List.set_cons_succ]
              rfl
            refine take_ (i := 10) (N := some 18) (v := ?_) (a' := ?_) #[true, true, true, true, true, true, true, true, true, true, true, false, false, false, false, false, false, false, false, false, false, false, false, false, false, false, false, false, false, false, false, false, false, false, false, false, false, false, false, false] rfl rfl (by kernel_rfl) (fun _ _ _ h_ => h_) (Or.inl ⟨by rfl, ?_⟩) hHeld ?_ ?_
            rotate_left
            · intro w_ hSw
              (obtain ⟨hz0, hz1, hz2, hz3, hz4⟩ := hSw)
              go_simp
              first | done | with_reducible rfl
            rotate_left
            · simp only [Act.put, List.setIfInBounds_toArray, List.set_cons_zero, List.set_cons_succ]
              rfl
            refine take_ (i := 11) (N := some 19) (v := ?_) (a' := ?_) #[true, true, true, true, true, true, true, true, true, true, true, true, false, false, false, false, false, false, false, false, false, false, false, false, false, false, false, false, false, false, false, false, false, false, false, false, false, false, false, false] rfl rfl (by kernel_rfl) (fun _ _ _ h_ => h_) (Or.inl ⟨by rfl, ?_⟩) hHeld ?_ ?_
            rotate_left
            · intro w_ hSw
              (obtain ⟨hz0, hz1, hz2, hz3, hz4⟩ := hSw)
              go_simp
              first | done | with_reducible rfl
            rotate_left
            · simp only [Act.put, List.setIfInBounds_toArray, List.set_cons_zero, List.set_cons_succ]
              rfl
            refine take_ (i := 12) (N := some 20) (v := ?_) (a' := ?_) #[true, true, true, true, true, true, true, true, true, true, true, true, true, false, false, false, false, false, false, false, false, false, false, false, false, false, false, false, false, false, false, false, false, false, false, false, false, false, false, false] rfl rfl (by kernel_rfl) (fun _ _ _ h_ => h_) (Or.inl ⟨by rfl, ?_⟩) hHeld ?_ ?_
            rotate_left
            · intro w_ hSw
              (obtain ⟨hz0, hz1, hz2, hz3, hz4⟩ := hSw)
              go_simp
              first | done | with_reducible rfl
            rotate_left
            · simp only [Act.put, List.setIfInBounds_toArray, List.set_cons_zero, List.set_cons_succ]
              rfl
            refine take_ (i := 13) (N := some 21) (v := ?_) (a' := ?_) #[true, true, true, true, true, true, true, true, true, true, true, true, true, true, false, false, false, false, false, false, false, false, false, false, false, false, false, false, false, false, false, false, false, false, false, false, false, false, false, false] rfl rfl (by kernel_rfl) (fun _ _ _ h_ => h_) (Or.inl ⟨by rfl, ?_⟩) hHeld ?_ ?_
            rotate_left
            · intro w_ hSw
              (obtain ⟨hz0, hz1, hz2, hz3, hz4⟩ := hSw)
              go_simp
              first | done | with_reducible rfl
            rotate_left
            · simp only [Act.put, List.setIfInBounds_toArray, List.set_cons_zero, List.set_cons_succ]
              rfl
            refine take_ (i := 14) (N := some 22) (v := ?_) (a' := ?_) #[true, true, true, true, true, true, true, true, true, true, true, true, true, true, true, false, false, false, false, false, false, false, false, false, false, false, false, false, false, false, false, false, false, false, false, false, false, false, false, false] rfl rfl (by kernel_rfl) (fun _ _ _ h_ => h_) (Or.inl ⟨by rfl, ?_⟩) hHeld ?_ ?_
            rotate_left
            · intro w_ hSw
              (obtain ⟨hz0, hz1, hz2, hz3, hz4⟩ := hSw)
              go_simp
              first | done | with_reducible rfl
            rotate_left
            · simp only [Act.put, List.setIfInBounds_toArray, List.set_cons_zero, List.set_cons_succ]
              rfl
            refine take_ (i := 15) (N := some 23) (v := ?_) (a' := ?_) #[true, true, true, true, true, true, true, true, true, true, true, true, true, true, true, true, false, false, false, false, false, false, false, false, false, false, false, false, false, false, false, false, false, false, false, false, false, false, false, false] rfl rfl (by kernel_rfl) (fun _ _ _ h_ => h_) (Or.inl ⟨by rfl, ?_⟩) hHeld ?_ ?_
            rotate_left
            · intro w_ hSw
              (obtain ⟨hz0, hz1, hz2, hz3, hz4⟩ := hSw)
              go_simp
              first | done | with_reducible rfl
            rotate_left
            · simp only [Act.put, List.setIfInBounds_toArray, List.set_cons_zero, List.set_cons_succ]
              rfl
            refine take_ (i := 16) (N := some 24) (v := ?_) (a' := ?_) #[true, true, true, true, true, true, true, true, true, true, true, true, true, true, true, true, true, false, false, false, false, false, false, false, false, false, false, false, false, false, false, false, false, false, false, false, false, false, false, false] rfl rfl (by kernel_rfl) (fun _ _ _ h_ => h_) (Or.inl ⟨by rfl, ?_⟩) hHeld ?_ ?_
            rotate_left
            · intro w_ hSw
              (obtain ⟨hz0, hz1, hz2, hz3, hz4⟩ := hSw)
              go_simp
              first | done | with_reducible rfl
            rotate_left
            · simp only [Act.put, List.setIfInBounds_toArray, List.set_cons_zero, List.set_cons_succ]
              rfl
            refine take_ (i := 17) (N := some 25) (v := ?_) (a' := ?_) #[true, true, true, true, true, true, true, true, true, true, true, true, true, true, true, true, true, true, false, false, false, false, false, false, false, false, false, false, false, false, false, false, false, false, false, false, false, false, false, false] rfl rfl (by kernel_rfl) (fun _ _ _ h_ => h_) (Or.inl ⟨by rfl, ?_⟩) hHeld ?_ ?_
            rotate_left
            · intro w_ hSw
              (obtain ⟨hz0, hz1, hz2, hz3, hz4⟩ := hSw)
              go_simp
              first | done | with_reducible rfl
            rotate_left
            · simp only [Act.put, List.setIfInBounds_toArray, List.set_cons_zero, List.set_cons_succ]
              rfl
            refine take_ (i := 18) (N := some 26) (v := ?_) (a' := ?_) #[true, true, true, true, true, true, true, true, true, true, true, true, true, true, true, true, true, true, true, false, false, false, false, false, false, false, false, false, false, false, false, false, false, false, false, false, false, false, false, false] rfl rfl (by kernel_rfl) (fun _ _ _ h_ => h_) (Or.inl ⟨by rfl, ?_⟩) hHeld ?_ ?_
            rotate_left
            · intro w_ hSw
              (obtain ⟨hz0, hz1, hz2, hz3, hz4⟩ := hSw)
              go_simp
              first | done | with_reducible rfl
            rotate_left
            · simp only [Act.put, List.setIfInBounds_toArray, List.set_cons_zero, List.set_cons_succ]
              rfl
            refine take_ (i := 19) (N := some 27) (v := ?_) (a' := ?_) #[true, true, true, true, true, true, true, true, true, true, true, true, true, true, true, true, true, true, true, true, false, false, false, false, false, false, false, false, false, false, false, false, false, false, false, false, false, false, false, false] rfl rfl (by kernel_rfl) (fun _ _ _ h_ => h_) (Or.inl ⟨by rfl, ?_⟩) hHeld ?_ ?_
            rotate_left
            · intro w_ hSw
              (obtain ⟨hz0, hz1, hz2, hz3, hz4⟩ := hSw)
              go_simp
              first | done | with_reducible rfl
            rotate_left
            · simp only [Act.put, List.setIfInBounds_toArray, List.set_cons_zero, List.set_cons_succ]
              rfl
            refine take_ (i := 20) (N := some 28) (v := ?_) (a' := ?_) #[true, true, true, true, true, true, true, true, true, true, true, true, true, true, true, true, true, true, true, true, true, false, false, false, false, false, false, false, false, false, false, false, false, false, false, false, false, false, false, false] rfl rfl (by kernel_rfl) (fun _ _ _ h_ => h_) (Or.inl ⟨by rfl, ?_⟩) hHeld ?_ ?_
            rotate_left
            · intro w_ hSw
              (obtain ⟨hz0, hz1, hz2, hz3, hz4⟩ := hSw)
              go_simp
              first | done | with_reducible rfl
            rotate_left
            · simp only [Act.put, List.setIfInBounds_toArray, List.set_cons_zero, List.set_cons_succ]
              rfl
            refine take_ (i := 21) (N := some 29) (v := ?_) (a' := ?_) #[true, true, true, true, true, true, true, true, true, true, true, true, true, true, true, true, true, true, true, true, true, true, false, false, false, false, false, false, false, false, false, false, false, false, false, false, false, false, false, false] rfl rfl (by kernel_rfl) (fun _ _ _ h_ => h_) (Or.inl ⟨by rfl, ?_⟩) hHeld ?_ ?_
            rotate_left
            · intro w_ hSw
              (obtain ⟨hz0, hz1, hz2, hz3, hz4⟩ := hSw)
              go_simp
              first | done | with_reducible rfl
            rotate_left
            · simp only [Act.put, List.setIfInBounds_toArray, List.set_cons_zero, List.set_cons_succ]
              rfl
            refine take_ (i := 22) (N := some 30) (v := ?_) (a' := ?_) #[true, true, true, true, true, true, true, true, true, true, true, true, true, true, true, true, true, true, true, true, true, true, true, false, false, false, false, false, false, false, false, false, false, false, false, false, false, false, false, false] rfl rfl (by kernel_rfl) (fun _ _ _ h_ => h_) (Or.inl ⟨by rfl, ?_⟩) hHeld ?_ ?_
            rotate_left
            · intro w_ hSw
              (obtain ⟨hz0, hz1, hz2, hz3, hz4⟩ := hSw)
              go_simp
              first | done | with_reducible rfl
            rotate_left
            · simp only [Act.put, List.setIfInBounds_toArray, List.set_cons_zero, List.set_cons_succ]
              rfl
            refine take_ (i := 23) (N := some 31) (v := ?_) (a' := ?_) #[true, true, true, true, true, true, true, true, true, true, true, true, true, true, true, true, true, true, true, true, true, true, true, true, false, false, false, false, false, false, false, false, false, false, false, false, false, false, false, false] rfl rfl (by kernel_rfl) (fun _ _ _ h_ => h_) (Or.inl ⟨by rfl, ?_⟩) hHeld ?_ ?_
            rotate_left
            · intro w_ hSw
              (obtain ⟨hz0, hz1, hz2, hz3, hz4⟩ := hSw)
              go_simp
              first | done | with_reducible rfl
            rotate_left
            · simp only [Act.put, List.setIfInBounds_toArray, List.set_cons_zero, List.set_cons_succ]
              rfl
            refine take_ (i := 24) (N := some 32) (v := ?_) (a' := ?_) #[true, true, true, true, true, true, true, true, true, true, true, true, true, true, true, true, true, true, true, true, true, true, true, true, true, false, false, false, false, false, false, false, false, false, false, false, false, false, false, false] rfl rfl (by kernel_rfl) (fun _ _ _ h_ => h_) (Or.inl ⟨by rfl, ?_⟩) hHeld ?_ ?_
            rotate_left
            · intro w_ hSw
              (obtain ⟨hz0, hz1, hz2, hz3, hz4⟩ := hSw)
              go_simp
              first | done | with_reducible rfl
            rotate_left
            · simp only [Act.put, List.setIfInBounds_toArray, List.set_cons_zero, List.set_cons_succ]
              rfl
            refine take_ (i := 25) (N := some 33) (v := ?_) (a' := ?_) #[true, true, true, true, true, true, true, true, true, true, true, true, true, true, true, true, true, true, true, true, true, true, true, true, true, true, false, false, false, false, false, false, false, false, false, false, false, false, false, false] rfl rfl (by kernel_rfl) (fun _ _ _ h_ => h_) (Or.inl ⟨by rfl, ?_⟩) hHeld ?_ ?_
            rotate_left
            · intro w_ hSw
              (obtain ⟨hz0, hz1, hz2, hz3, hz4⟩ := hSw)
              go_simp
              first | done | with_reducible rfl
            rotate_left
            · simp only [Act.put, List.setIfInBounds_toArray, List.set_cons_zero, List.set_cons_succ]
              rfl
            refine take_ (i := 26) (N := some 34) (v := ?_) (a' := ?_) #[true, true, true, true, true, true, true, true, true, true, true, true, true, true, true, true, true, true, true, true, true, true, true, true, true, true, true, false, false, false, false, false, false, false, false, false, false, false, false, false] rfl rfl (by kernel_rfl) (fun _ _ _ h_ => h_) (Or.inl ⟨by rfl, ?_⟩) hHeld ?_ ?_
            rotate_left
            · intro w_ hSw
              (obtain ⟨hz0, hz1, hz2, hz3, hz4⟩ := hSw)
              go_simp
              first | done | with_reducible rfl
            rotate_left
            · simp only [Act.put, List.setIfInBounds_toArray, List.set_cons_zero, List.set_cons_succ]
              rfl
            refine take_ (i := 27) (N := some 35) (v := ?_) (a' := ?_) #[true, true, true, true, true, true, true, true, true, true, true, true, true, true, true, true, true, true, true, true, true, true, true, true, true, true, true, true, false, false, false, false, false, false, false, false, false, false, false, false] rfl rfl (by kernel_rfl) (fun _ _ _ h_ => h_) (Or.inl ⟨by rfl, ?_⟩) hHeld ?_ ?_
            rotate_left
            · intro w_ hSw
              (obtain ⟨hz0, hz1, hz2, hz3, hz4⟩ := hSw)
              go_simp
              first | done | with_reducible rfl
            rotate_left
            · simp only [Act.put, List.setIfInBounds_toArray, List.set_cons_zero, List.set_cons_succ]
              rfl
            refine take_ (i := 28) (N := some 36) (v := ?_) (a' := ?_) #[true, true, true, true, true, true, true, true, true, true, true, true, true, true, true, true, true, true, true, true, true, true, true, true, true, true, true, true, true, false, false, false, false, false, false, false, false, false, false, false] rfl rfl (by kernel_rfl) (fun _ _ _ h_ => h_) (Or.inl ⟨by rfl, ?_⟩) hHeld ?_ ?_
            rotate_left
            · intro w_ hSw
              (obtain ⟨hz0, hz1, hz2, hz3, hz4⟩ := hSw)
              go_simp
              first | done | with_reducible rfl
            rotate_left
            · simp only [Act.put, List.setIfInBounds_toArray, List.set_cons_zero, List.set_cons_succ]
              rfl
            refine take_ (i := 29) (N := some 37) (v := ?_) (a' := ?_) #[true, true, true, true, true, true, true, true, true, true, true, true, true, true, true, true, true, true, true, true, true, true, true, true, true, true, true, true, true, true, false, false, false, false, false, false, false, false, false, false] rfl rfl (by kernel_rfl) (fun _ _ _ h_ => h_) (Or.inl ⟨by rfl, ?_⟩) hHeld ?_ ?_
            rotate_left
            · intro w_ hSw
              (obtain ⟨hz0, hz1, hz2, hz3, hz4⟩ := hSw)
              go_simp
              first | done | with_reducible rfl
            rotate_left
            · simp only [Act.put, List.setIfInBounds_toArray, List.set_cons_zero, List.set_cons_succ]
              rfl
            refine take_ (i := 30) (N := some 38) (v := ?_) (a' := ?_) #[true, true, true, true, true, true, true, true, true, true, true, true, true, true, true, true, true, true, true, true, true, true, true, true, true, true, true, true, true, true, true, false, false, false, false, false, false, false, false, false] rfl rfl (by kernel_rfl) (fun _ _ _ h_ => h_) (Or.inl ⟨by rfl, ?_⟩) hHeld ?_ ?_
            rotate_left
            · intro w_ hSw
              (obtain ⟨hz0, hz1, hz2, hz3, hz4⟩ := hSw)
              go_simp
              first | done | with_reducible rfl
            rotate_left
            · simp only [Act.put, List.setIfInBounds_toArray, List.set_cons_zero, List.set_cons_succ]
              rfl
            refine take_ (i := 31) (N := some 39) (v := ?_) (a' := ?_) #[true, true, true, true, true, true, true, true, true, true, true, true, true, true, true, true, true, true, true, true, true, true, true, true, true, true, true, true, true, true, true, true, false, false, false, false, false, false, false, false] rfl rfl (by kernel_rfl) (fun _ _ _ h_ => h_) (Or.inl ⟨by rfl, ?_⟩) hHeld ?_ ?_
            rotate_left
            · intro w_ hSw
              (obtain ⟨hz0, hz1, hz2, hz3, hz4⟩ := hSw)
              go_simp
              first | done | with_reducible rfl
            rotate_left
            · simp only [Act.put, List.setIfInBounds_toArray, List.set_cons_zero, List.set_cons_succ]
              rfl
            refine take_ (i := 32) (N := some 40) (v := ?_) (a' := ?_) #[true, true, true, true, true, true, true, true, true, true, true, true, true, true, true, true, true, true, true, true, true, true, true, true, true, true, true, true, true, true, true, true, true, false, false, false, false, false, false, false] rfl rfl (by kernel_rfl) (fun _ _ _ h_ => h_) (Or.inl ⟨by rfl, ?_⟩) hHeld ?_ ?_
            rotate_left
            · intro w_ hSw
              (obtain ⟨hz0, hz1, hz2, hz3, hz4⟩ := hSw)
              go_simp
              first | done | with_reducible rfl
            rotate_left
            · simp only [Act.put, List.setIfInBounds_toArray, List.set_cons_zero, List.set_cons_succ]
              rfl
            refine take_ (i := 33) (N := some 41) (v := ?_) (a' := ?_) #[true, true, true, true, true, true, true, true, true, true, true, true, true, true, true, true, true, true, true, true, true, true, true, true, true, true, true, true, true, true, true, true, true, true, false, false, false, false, false, false] rfl rfl (by kernel_rfl) (fun _ _ _ h_ => h_) (Or.inl ⟨by rfl, ?_⟩) hHeld ?_ ?_
            rotate_left
            · intro w_ hSw
              (obtain ⟨hz0, hz1, hz2, hz3, hz4⟩ := hSw)
              go_simp
              first | done | with_reducible rfl
            rotate_left
            · simp only [Act.put, List.setIfInBounds_toArray, List.set_cons_zero, List.set_cons_succ]
              rfl
            refine take_ (i := 34) (N := some 42) (v := ?_) (a' := ?_) #[true, true, true, true, true, true, true, true, true, true, true, true, true, true, true, true, true, true, true, true, true, true, true, true, true, true, true, true, true, true, true, true, true, true, true, false, false, false, false, false] rfl rfl (by kernel_rfl) (fun _ _ _ h_ => h_) (Or.inl ⟨by rfl, ?_⟩) hHeld ?_ ?_
            rotate_left
            · intro w_ hSw
              (obtain ⟨hz0, hz1, hz2, hz3, hz4⟩ := hSw)
              go_simp
              first | done | with_reducible rfl
            rotate_left
            · simp only [Act.put, List.setIfInBounds_toArray, List.set_cons_zero, List.set_cons_succ]
              rfl
            refine take_ (i := 35) (N := some 43) (v := ?_) (a' := ?_) #[true, true, true, true, true, true, true, true, true, true, true, true, true, true, true, true, true, true, true, true, true, true, true, true, true, true, true, true, true, true, true, true, true, true, true, true, false, false, false, false] rfl rfl (by kernel_rfl) (fun _ _ _ h_ => h_) (Or.inl ⟨by rfl, ?_⟩) hHeld ?_ ?_
            rotate_left
            · intro w_ hSw
              (obtain ⟨hz0, hz1, hz2, hz3, hz4⟩ := hSw)
              go_simp
              first | done | with_reducible rfl
            rotate_left
            · simp only [Act.put, List.setIfInBounds_toArray, List.set_cons_zero, List.set_cons_succ]
              rfl
            refine take_ (i := 36) (N := some 44) (v := ?_) (a' := ?_) #[true, true, true, true, true, true, true, true, true, true, true, true, true, true, true, true, true, true, true, true, true, true, true, true, true, true, true, true, true, true, true, true, true, true, true, true, true, false, false, false] rfl rfl (by kernel_rfl) (fun _ _ _ h_ => h_) (Or.inl ⟨by rfl, ?_⟩) hHeld ?_ ?_
            rotate_left
            · intro w_ hSw
              (obtain ⟨hz0, hz1, hz2, hz3, hz4⟩ := hSw)
              go_simp
              first | done | with_reducible rfl
            rotate_left
            · simp only [Act.put, List.setIfInBounds_toArray, List.set_cons_zero, List.set_cons_succ]
              rfl
            refine take_ (i := 37) (N := some 45) (v := ?_) (a' := ?_) #[true, true, true, true, true, true, true, true, true, true, true, true, true, true, true, true, true, true, true, true, true, true, true, true, true, true, true, true, true, true, true, true, true, true, true, true, true, true, false, false] rfl rfl (by kernel_rfl) (fun _ _ _ h_ => h_) (Or.inl ⟨by rfl, ?_⟩) hHeld ?_ ?_
            rotate_left
            · intro w_ hSw
              (obtain ⟨hz0, hz1, hz2, hz3, hz4⟩ := hSw)
              go_simp
              first | done | with_reducible rfl
            rotate_left
            · simp only [Act.put, List.setIfInBounds_toArray, List.set_cons_zero, List.set_cons_succ]
              rfl
            refine take_ (i := 38) (N := some 46) (v := ?_) (a' := ?_) #[true, true, true, true, true, true, true, true, true, true, true, true, true, true, true, true, true, true, true, true, true, true, true, true, true, true, true, true, true, true, true, true, true, true, true, true, true, true, true, false] rfl rfl (by kernel_rfl) (fun _ _ _ h_ => h_) (Or.inl ⟨by rfl, ?_⟩) hHeld ?_ ?_
            rotate_left
            · intro w_ hSw
              (obtain ⟨hz0, hz1, hz2, hz3, hz4⟩ := hSw)
              go_simp
              first | done | with_reducible rfl
            rotate_left
            · simp only [Act.put, List.setIfInBounds_toArray, List.set_cons_zero, List.set_cons_succ]
              rfl
            refine take_ (i := 39) (N := some 47) (v := ?_) (a' := ?_) #[true, true, true, true, true, true, true, true, true, true, true, true, true, true, true, true, true, true, true, true, true, true, true, true, true, true, true, true, true, true, true, true, true, true, true, true, true, true, true, true] rfl rfl (by kernel_rfl) (fun _ _ _ h_ => h_) (Or.inl ⟨by rfl, ?_⟩) hHeld ?_ ?_
            rotate_left
            · intro w_ hSw
              (obtain ⟨hz0, hz1, hz2, hz3, hz4⟩ := hSw)
              go_simp
              first | done | with_reducible rfl
            rotate_left
            · simp only [Act.put, List.setIfInBounds_toArray, List.set_cons_zero, List.set_cons_succ]
              rfl
            refine done_ (by kernel_rfl) ?_
            have hq0 : (w.alloc (.cells #[.slice A1 xs.length c1, .int .i64 y] 103)).drew.cell? ⟨w.heap.size, 0, none⟩ = some (.slice A1 xs.length c1) := ZA.out
            have H7 := Aside0.mk (show Below w.heap.size w (w.alloc (.cells #[.slice A1 xs.length c1, .int .i64 y] 103)).drew from Below.grown BL.out (cR.drew1 _) (below_size BL.out) (fun k e => by cases e))
            have HR7 := Aside0.mk (show cS.RD ((w.alloc (.cells #[.slice A1 xs.length c1, .int .i64 y] 103)).drew) (.slice A1 xs.length c1) xs from HR.out.below H7.out)
            generalize World.drew _ = w5 at hq0 H7 HR7 ⊢
            clear z0 z1 z2 z3 z4 d1t cyt p1 p2 p3 HP1 d2t
            have hlt5 := below_size H7.out
            have hq1 := fun o => Lib.cell?_alloc_some o hq0
            go_wp2_with (refine (cS.cat3 HR7.out H5.out (-1) (-2)).mono ?_; rintro e w6 ⟨v0, rfl, hr6, hb6⟩; have H6 := Aside0.mk hr6; have HB6 := Aside0.mk (Below.trans H7.out (Below.mono hb6 hlt5)); clear hr6 hb6)
            go_ret
            exact ⟨_, rfl, by rw [HM.out, if_pos HP.out]; exact H6.out, HB6.out⟩
        | false =>
          cases right with
          | true =>
            have HP := Aside0.mk (show cS.markp l0 y x true = true by rw [HP1.out]; simp [cyt, d1])
            clear d1
            go_enter Try.func58, Try.ntmps58
            go_wp2
            refine start_ (n := 40) (S := (fun w' => w'.cell? ⟨w.heap.size, 1, none⟩ = some (.int .i64 y) ∧ w'.cell? ⟨g, 0, none⟩ = some (.slice (some adx) l0.length c0) ∧ w'.cell? (adx.add (y.toNat * 2)) = some (.int .i64 a0) ∧ w'.cell? (adx.add (x.toNat * 2)) = some (.int .i64 a0) ∧ w'.cell? ⟨(adx.add (x.toNat * 2)).block, (adx.add (x.toNat * 2)).off + 1, none⟩ = some (.bool false))) (ds := []) #[false, false, false, false, false, false, false, false, false, false, false, false, false, false, false, false, false, false, false, false, false, false, false, false, false, false, false, false, false, false, false, false, false, false, false, false, false, false, false, false] (by kernel_rfl) rfl rfl (⟨z0, z1, z2, z3, z4⟩) (fun hHeld => ?_)
            refine take_ (i := 0) (N := some 8) (v := ?_) (a' := ?_) #[true, false, false, false, false, false, false, false, false, false, false, false, false, false, false, false, false, false, false, false, false, false, false, false, false, false, false, false, false, false, false, false, false, false, false, false, false, false, false, false] rfl rfl (by kernel_rfl) (fun _ _ _ h_ => h_) (Or.inl ⟨by rfl, ?_⟩) hHeld ?_ ?_
            rotate_left
            · intro w_ hSw
              (obtain ⟨hz0, hz1, hz2, hz3, hz4⟩ := hSw)
              go_simp
              first | done | with_reducible rfl
            rotate_left
            · simp only [Act.put, List.setIfInBounds_toArray, List.set_cons_zero, List.set_cons_succ]
              rfl
            refine take_ (i := 1) (N := some 9) (v := ?_) (a' := ?_) #[true, true, false, false, false, false, false, false, false, false, false, false, false, false, false, false, false, false, false, false, false, false, false, false, false, false, false, false, false, false, false, false, false, false, false, false, false, false, false, false] rfl rfl (by kernel_rfl) (fun _ _ _ h_ => h_) (Or.inl ⟨by rfl, ?_⟩) hHeld ?_ ?_
            rotate_left
            · intro w_ hSw
              (obtain ⟨hz0, hz1, hz2, hz3, hz4⟩ := hSw)
              go_simp
              first | done | with_reducible rfl
            rotate_left
            · simp only [Act.put, List.setIfInBounds_toArray, List.set_cons_zero, List.set_cons_succ]
              rfl
            refine take_ (i := 2) (N := some 10) (v := ?_) (a' := ?_) #[true, true, true, false, false, false, false, false, false, false, false, false, false, false, false, false, false, false, false, false, false, false, false, false, false, false, false, false, false, false, false, false, false, false, false, false, false, false, false, false] rfl rfl (by kernel_rfl) (fun _ _ _ h_ => h_) (Or.inl ⟨by rfl, ?_⟩) hHeld ?_ ?_
            rotate_left
            · intro w_ hSw
              (obtain ⟨hz0, hz1, hz2, hz3, hz4⟩ := hSw)
              go_simp
              first | done | with_reducible rfl
            rotate_left
            · simp only [Act.put, List.setIfInBounds_toArray, List.set_cons_zero, List.set_cons_succ]
              rfl
            refine take_ (i := 3) (N := some 11) (v := ?_) (a' := ?_) #[true, true, true, true, false, false, false, false, false, false, false, false, false, false, false, false, false, false, false, false, false, false, false, false, false, false, false, false, false, false, false, false, false, false, false, false, false, false, false, false] rfl rfl (by kernel_rfl) (fun _ _ _ h_ => h_) (Or.inl ⟨by rfl, ?_⟩) hHeld ?_ ?_
            rotate_left
            · intro w_ hSw
              (obtain ⟨hz0, hz1, hz2, hz3, hz4⟩ := hSw)
              go_simp
              first | done | with_reducible rfl
            rotate_left
            · simp only [Act.put, List.setIfInBounds_toArray, List.set_cons_zero, List.set_cons_succ]
              rfl
            refine take_ (i := 4) (N := some 12) (v := ?_) (a' := ?_) #[true, true, true, true, true, false, false, false, false, false, false, false, false, false, false, false, false, false, false, false, false, false, false, false, false, false, false, false, false, false, false, false, false, false, false, false, false, false, false, false] rfl rfl (by kernel_rfl) (fun _ _ _ h_ => h_) (Or.inl ⟨by rfl, ?_⟩) hHeld ?_ ?_
            rotate_left
            · intro w_ hSw
              (obtain ⟨hz0, hz1, hz2, hz3, hz4⟩ := hSw)
              go_simp
              first | done | with_reducible rfl
            rotate_left
            · simp only [Act.put, List.setIfInBounds_toArray, List.set_cons_zero, List.set_cons_succ]
              rfl
            refine take_ (i := 5) (N := some 13) (v := ?_) (a' := ?_) #[true, true, true, true, true, true, false, false, false, false, false, false, false, false, false, false, false, false, false, false, false, false, false, false, false, false, false, false, false, false, false, false, false, false, false, false, false, false, false, false] rfl rfl (by kernel_rfl) (fun _ _ _ h_ => h_) (Or.inl ⟨by rfl, ?_⟩) hHeld ?_ ?_
            rotate_left
            · intro w_ hSw
              (obtain ⟨hz0, hz1, hz2, hz3, hz4⟩ := hSw)
              go_simp
              first | done | with_reducible rfl
            rotate_left
            · simp only [Act.put, List.setIfInBounds_toArray, List.set_cons_zero, List.set_cons_succ]
              rfl
            refine take_ (i := 6) (N := some 14) (v := ?_) (a' := ?_) #[true, true, true, true, true, true, true, false, false, false, false, false, false, false, false, false, false, false, false, false, false, false, false, false, false, false, false, false, false, false, false, false, false, false, false, false, false, false, false, false] rfl rfl (by kernel_rfl) (fun _ _ _ h_ => h_) (Or.inl ⟨by rfl, ?_⟩) hHeld ?_ ?_
            rotate_left
            · intro w_ hSw
              (obtain ⟨hz0, hz1, hz2, hz3, hz4⟩ := hSw)
              go_simp
              first | done | with_reducible rfl
            rotate_left
            · simp only [Act.put, List.setIfInBounds_toArray, List.set_cons_zero, List.set_cons_succ]
              rfl
            refine take_ (i := 7) (N := some 15) (v := ?_) (a' := ?_) #[true, true, true, true, true, true, true, true, false, false, false, false, false, false, false, false, false, false, false, false, false, false, false, false, false, false, false, false, false, false, false, false, false, false, false, false, false, false, false, false] rfl rfl (by kernel_rfl) (fun _ _ _ h_ => h_) (Or.inl ⟨by rfl, ?_⟩) hHeld ?_ ?_
            rotate_left
            · intro w_ hSw
              (obtain ⟨hz0, hz1, hz2, hz3, hz4⟩ := hSw)
              go_simp
              first | done | with_reducible rfl
            rotate_left
            · simp only [Act.put, List.setIfInBounds_toArray, List.set_cons_zero, List.set_cons_succ]
              rfl
            refine take_ (i := 8) (N := some 16) (v := ?_) (a' := ?_) #[true, true, true, true, true, true, true, true, true, false, false, false, false, false, false, false, false, false, false, false, false, false, false, false, false, false, false, false, false, false, false, false, false, false, false, false, false, false, false, false] rfl rfl (by kernel_rfl) (fun _ _ _ h_ => h_) (Or.inl ⟨by rfl, ?_⟩) hHeld ?_ ?_
            rotate_left
            · intro w_ hSw
              (obtain ⟨hz0, hz1, hz2, hz3, hz4⟩ := hSw)
              go_simp
              first | done | with_reducible rfl
            rotate_left
            · simp only [Act.put, List.setIfInBounds_toArray, List.set_cons_zero, List.set_cons_succ]
              rfl
            refine take_ (i := 9) (N := some 17) (v := ?_) (a' := ?_) #[true, true, true, true, true, true, true, true, true, true, false, false, false, false, false, false, false, false, false, false, false, false, false, false, false, false, false, false, false, false, false, false, false, false, false, false, false, false, false, false] rfl rfl (by kernel_rfl) (fun _ _ _ h_ => h_) (Or.inl ⟨by rfl, ?_⟩) hHeld ?_ ?_
            rotate_left
            · intro w_ hSw
              (obtain ⟨hz0, hz1, hz2, hz3, hz4⟩ := hSw)
              go_simp
              first | done | with_reducible rfl
            rotate_left
            · simp only [Act.put, List.setIfInBounds_toArray, List.set_cons_zero, List.set_cons_succ]
              rfl
            refine take_ (i := 10) (N := some 18) (v := ?_) (a' := ?_) #[true, true, true, true, true, true, true, true, true, true, true, false, false, false, false, false, false, false, false, false, false, false, false, false, false, false, false, false, false, false, false, false, false, false, false, false, false, false, false, false] rfl rfl (by kernel_rfl) (fun _ _ _ h_ => h_) (Or.inl ⟨by rfl, ?_⟩) hHeld ?_ ?_
            rotate_left
            · intro w_ hSw
              (obtain ⟨hz0, hz1, hz2, hz3, hz4⟩ := hSw)
              go_simp
              first | done | with_reducible rfl
            rotate_left
            · simp only [Act.put, List.setIfInBounds_toArray, List.set_cons_zero, List.set_cons_succ]
              rfl
            refine take_ (i := 11) (N := some 19) (v := ?_) (a' := ?_) #[true, true, true, true, true, true, true, true, true, true, true, true, false, false, false, false, false, false, false, false, false, false, false, false, false, false, false, false, false, false, false, false, false, false, false, false, false, false, false, false] rfl rfl (by kernel_rfl) (fun _ _ _ h_ => h_) (Or.inl ⟨by rfl, ?_⟩) hHeld ?_ ?_
            rotate_left
            · intro w_ hSw
              (obtain ⟨hz0, hz1, hz2, hz3, hz4⟩ := hSw)
              go_simp
              first | done | with_reducible rfl
            rotate_left
            · simp only [Act.put, List.setIfInBounds_toArray, List.set_cons_zero, List.set_cons_succ]
              rfl
            refine take_ (i := 12) (N := some 20) (v := ?_) (a' := ?_) #[true, true, true, true, true, true, true, true, true, true, true, true, true, false, false, false, false, false, false, false, false, false, false, false, false, false, false, false, false, false, false, false, false, false, false, false, false, false, false, false] rfl rfl (by kernel_rfl) (fun _ _ _ h_ => h_) (Or.inl ⟨by rfl, ?_⟩) hHeld ?_ ?_
            rotate_left
            · intro w_ hSw
              (obtain ⟨hz0, hz1, hz2, hz3, hz4⟩ := hSw)
              go_simp
              first | done | with_reducible rfl
            rotate_left
            · simp only [Act.put, List.setIfInBounds_toArray, List.set_cons_zero, List.set_cons_succ]
              rfl
            refine take_ (i := 13) (N := some 21) (v := ?_) (a' := ?_) #[true, true, true, true, true, true, true, true, true, true, true, true, true, true, false, false, false, false, false, false, false, false, false, false, false, false, false, false, false, false, false, false, false, false, false, false, false, false, false, false] rfl rfl (by kernel_rfl) (fun _ _ _ h_ => h_) (Or.inl ⟨by rfl, ?_⟩) hHeld ?_ ?_
            rotate_left
            · intro w_ hSw
              (obtain ⟨hz0, hz1, hz2, hz3, hz4⟩ := hSw)
              go_simp
              first | done | with_reducible rfl
            rotate_left
            · simp only [Act.put, List.setIfInBounds_toArray, List.set_cons_zero, List.set_cons_succ]
              rfl
            refine take_ (i := 14) (N := some 22) (v := ?_) (a' := ?_) #[true, true, true, true, true, true, true, true, true, true, true, true, true, true, true, false, false, false, false, false, false, false, false, false, false, false, false, false, false, false, false, false, false, false, false, false, false, false, false, false] rfl rfl (by kernel_rfl) (fun _ _ _ h_ => h_) (Or.inl ⟨by rfl, ?_⟩) hHeld ?_ ?_
            rotate_left
            · intro w_ hSw
              (obtain ⟨hz0, hz1, hz2, hz3, hz4⟩ := hSw)
              go_simp
              first | done | with_reducible rfl
            rotate_left
            · simp only [Act.put, List.setIfInBounds_toArray, List.set_cons_zero, List.set_cons_succ]
              rfl
            refine take_ (i := 15) (N := some 23) (v := ?_) (a' := ?_) #[true, true, true, true, true, true, true, true, true, true, true, true, true, true, true, true, false, false, false, false, false, false, false, false, false, false, false, false, false, false, false, false, false, false, false, false, false, false, false, false] rfl rfl (by kernel_rfl) (fun _ _ _ h_ => h_) (Or.inl ⟨by rfl, ?_⟩) hHeld ?_ ?_
            rotate_left
            · intro w_ hSw
              (obtain ⟨hz0, hz1, hz2, hz3, hz4⟩ := hSw)
              go_simp
              first | done | with_reducible rfl
            rotate_left
            · simp only [Act.put, List.setIfInBounds_toArray, List.set_cons_zero, List.set_cons_succ]
              rfl
            refine take_ (i := 16) (N := some 24) (v := ?_) (a' := ?_) #[true, true, true, true, true, true, true, true, true, true, true, true, true, true, true, true, true, false, false, false, false, false, false, false, false, false, false, false, false, false, false, false, false, false, false, false, false, false, false, false] rfl rfl (by kernel_rfl) (fun _ _ _ h_ => h_) (Or.inl ⟨by rfl, ?_⟩) hHeld ?_ ?_
            rotate_left
            · intro w_ hSw
              (obtain ⟨hz0, hz1, hz2, hz3, hz4⟩ := hSw)
              go_simp
              first | done | with_reducible rfl
            rotate_left
            · simp only [Act.put, List.setIfInBounds_toArray, List.set_cons_zero, List.set_cons_succ]
              rfl
            refine take_ (i := 17) (N := some 25) (v := ?_) (a' := ?_) #[true, true, true, true, true, true, true, true, true, true, true, true, true, true, true, true, true, true, false, false, false, false, false, false, false, false, false, false, false, false, false, false, false, false, false, false, false, false, false, false] rfl rfl (by kernel_rfl) (fun _ _ _ h_ => h_) (Or.inl ⟨by rfl, ?_⟩) hHeld ?_ ?_
            rotate_left
            · intro w_ hSw
              (obtain ⟨hz0, hz1, hz2, hz3, hz4⟩ := hSw)
              go_simp
              first | done | with_reducible rfl
            rotate_left
            · simp only [Act.put, List.setIfInBounds_toArray, List.set_cons_zero, List.set_cons_succ]
              rfl
            refine take_ (i := 18) (N := some 26) (v := ?_) (a' := ?_) #[true, true, true, true, true, true, true, true, true, true, true, true, true, true, true, true, true, true, true, false, false, false, false, false, false, false, false, false, false, false, false, false, false, false, false, false, false, false, false, false] rfl rfl (by kernel_rfl) (fun _ _ _ h_ => h_) (Or.inl ⟨by rfl, ?_⟩) hHeld ?_ ?_
            rotate_left
            · intro w_ hSw
              (obtain ⟨hz0, hz1, hz2, hz3, hz4⟩ := hSw)
              go_simp
              first | done | with_reducible rfl
            rotate_left
            · simp only [Act.put, List.setIfInBounds_toArray, List.set_cons_zero, List.set_cons_succ]
              rfl
            refine take_ (i := 19) (N := some 27) (v := ?_) (a' := ?_) #[true, true, true, true, true, true, true, true, true, true, true, true, true, true, true, true, true, true, true, true, false, false, false, false, false, false, false, false, false, false, false, false, false, false, false, false, false, false, false, false] rfl rfl (by kernel_rfl) (fun _ _ _ h_ => h_) (Or.inl ⟨by rfl, ?_⟩) hHeld ?_ ?_
            rotate_left
            · intro w_ hSw
              (obtain ⟨hz0, hz1, hz2, hz3, hz4⟩ := hSw)
              go_simp
              first | done | with_reducible rfl
            rotate_left
            · simp only [Act.put, List.setIfInBounds_toArray, List.set_cons_zero, List.set_cons_succ]
              rfl
            refine take_ (i := 20) (N := some 28) (v := ?_) (a' := ?_) #[true, true, true, true, true, true, true, true, true, true, true, true, true, true, true, true, true, true, true, true, true, false, false, false, false, false, false, false, false, false, false, false, false, false, false, false, false, false, false, false] rfl rfl (by kernel_rfl) (fun _ _ _ h_ => h_) (Or.inl ⟨by rfl, ?_⟩) hHeld ?_ ?_
            rotate_left
            · intro w_ hSw
              (obtain ⟨hz0, hz1, hz2, hz3, hz4⟩ := hSw)
              go_simp
              first | done | with_reducible rfl
            rotate_left
            · simp only [Act.put, List.setIfInBounds_toArray, List.set_cons_zero, List.set_cons_succ]
              rfl
            refine take_ (i := 21) (N := some 29) (v := ?_) (a' := ?_) #[true, true, true, true, true, true, true, true, true, true, true, true, true, true, true, true, true, true, true, true, true, true, false, false, false, false, false, false, false, false, false, false, false, false, false, false, false, false, false, false] rfl rfl (by kernel_rfl) (fun _ _ _ h_ => h_) (Or.inl ⟨by rfl, ?_⟩) hHeld ?_ ?_
            rotate_left
            · intro w_ hSw
              (obtain ⟨hz0, hz1, hz2, hz3, hz4⟩ := hSw)
              go_simp
              first | done | with_reducible rfl
            rotate_left
            · simp only [Act.put, List.setIfInBounds_toArray, List.set_cons_zero, List.set_cons_succ]
              rfl
            refine take_ (i := 22) (N := some 30) (v := ?_) (a' := ?_) #[true, true, true, true, true, true, true, true, true, true, true, true, true, true, true, true, true, true, true, true, true, true, true, false, false, false, false, false, false, false, false, false, false, false, false, false, false, false, false, false] rfl rfl (by kernel_rfl) (fun _ _ _ h_ => h_) (Or.inl ⟨by rfl, ?_⟩) hHeld ?_ ?_
            rotate_left
            · intro w_ hSw
              (obtain ⟨hz0, hz1, hz2, hz3, hz4⟩ := hSw)
              go_simp
              first | done | with_reducible rfl
            rotate_left
            · simp only [Act.put, List.setIfInBounds_toArray, List.set_cons_zero, List.set_cons_succ]
              rfl
            refine take_ (i := 23) (N := some 31) (v := ?_) (a' := ?_) #[true, true, true, true, true, true, true, true, true, true, true, true, true, true, true, true, true, true, true, true, true, true, true, true, false, false, false, false, false, false, false, false, false, false, false, false, false, false, false, false] rfl rfl (by kernel_rfl) (fun _ _ _ h_ => h_) (Or.inl ⟨by rfl, ?_⟩) hHeld ?_ ?_
            rotate_left
            · intro w_ hSw
              (obtain ⟨hz0, hz1, hz2, hz3, hz4⟩ := hSw)
              go_simp
              first | done | with_reducible rfl
            rotate_left
            · simp only [Act.put, List.setIfInBounds_toArray, List.set_cons_zero, List.set_cons_succ]
              rfl
            refine take_ (i := 24) (N := some 32) (v := ?_) (a' := ?_) #[true, true, true, true, true, true, true, true, true, true, true, true, true, true, true, true, true, true, true, true, true, true, true, true, true, false, false, false, false, false, false, false, false, false, false, false, false, false, false, false] rfl rfl (by kernel_rfl) (fun _ _ _ h_ => h_) (Or.inl ⟨by rfl, ?_⟩) hHeld ?_ ?_
            rotate_left
            · intro w_ hSw
              (obtain ⟨hz0, hz1, hz2, hz3, hz4⟩ := hSw)
              go_simp
              first | done | with_reducible rfl
            rotate_left
            · simp only [Act.put, List.setIfInBounds_toArray, List.set_cons_zero, List.set_cons_succ]
              rfl
            refine take_ (i := 25) (N := some 33) (v := ?_) (a' := ?_) #[true, true, true, true, true, true, true, true, true, true, true, true, true, true, true, true, true, true, true, true, true, true, true, true, true, true, false, false, false, false, false, false, false, false, false, false, false, false, false, false] rfl rfl (by kernel_rfl) (fun _ _ _ h_ => h_) (Or.inl ⟨by rfl, ?_⟩) hHeld ?_ ?_
            rotate_left
            · intro w_ hSw
              (obtain ⟨hz0, hz1, hz2, hz3, hz4⟩ := hSw)
              go_simp
              first | done | with_reducible rfl
            rotate_left
            · simp only [Act.put, List.setIfInBounds_toArray, List.set_cons_zero, List.set_cons_succ]
              rfl
            refine take_ (i := 26) (N := some 34) (v := ?_) (a' := ?_) #[true, true, true, true, true, true, true, true, true, true, true, true, true, true, true, true, true, true, true, true, true, true, true, true, true, true, true, false, false, false, false, false, false, false, false, false, false, false, false, false] rfl rfl (by kernel_rfl) (fun _ _ _ h_ => h_) (Or.inl ⟨by rfl, ?_⟩) hHeld ?_ ?_
            rotate_left
            · intro w_ hSw
              (obtain ⟨hz0, hz1, hz2, hz3, hz4⟩ := hSw)
              go_simp
              first | done | with_reducible rfl
            rotate_left
            · simp only [Act.put, List.setIfInBounds_toArray, List.set_cons_zero, List.set_cons_succ]
              rfl
            refine take_ (i := 27) (N := some 35) (v := ?_) (a' := ?_) #[true, true, true, true, true, true, true, true, true, true, true, true, true, true, true, true, true, true, true, true, true, true, true, true, true, true, true, true, false, false, false, false, false, false, false, false, false, false, false, false] rfl rfl (by kernel_rfl) (fun _ _ _ h_ => h_) (Or.inl ⟨by rfl, ?_⟩) hHeld ?_ ?_
            rotate_left
            · intro w_ hSw
              (obtain ⟨hz0, hz1, hz2, hz3, hz4⟩ := hSw)
              go_simp
              first | done | with_reducible rfl
            rotate_left
            · simp only [Act.put, List.setIfInBounds_toArray, List.set_cons_zero, List.set_cons_succ]
              rfl
            refine take_ (i := 28) (N := some 36) (v := ?_) (a' := ?_) #[true, true, true, true, true, true, true, true, true, true, true, true, true, true, true, true, true, true, true, true, true, true, true, true, true, true, true, true, true, false, false, false, false, false, false, false, false, false, false, false] rfl rfl (by kernel_rfl) (fun _ _ _ h_ => h_) (Or.inl ⟨by rfl, ?_⟩) hHeld ?_ ?_
            rotate_left
            · intro w_ hSw
              (obtain ⟨hz0, hz1, hz2, hz3, hz4⟩ := hSw)
              go_simp
              first | done | with_reducible rfl
            rotate_left
            · simp only [Act.put, List.setIfInBounds_toArray, List.set_cons_zero, List.set_cons_succ]
              rfl
            refine take_ (i := 29) (N := some 37) (v := ?_) (a' := ?_) #[true, true, true, true, true, true, true, true, true, true, true, true, true, true, true, true, true, true, true, true, true, true, true, true, true, true, true, true, true, true, false, false, false, false, false, false, false, false, false, false] rfl rfl (by kernel_rfl) (fun _ _ _ h_ => h_) (Or.inl ⟨by rfl, ?_⟩) hHeld ?_ ?_
            rotate_left
            · intro w_ hSw
              (obtain ⟨hz0, hz1, hz2, hz3, hz4⟩ := hSw)
              go_simp
              first | done | with_reducible rfl
            rotate_left
            · simp only [Act.put, List.setIfInBounds_toArray, List.set_cons_zero, List.set_cons_succ]
              rfl
            refine take_ (i := 30) (N := some 38) (v := ?_) (a' := ?_) #[true, true, true, true, true, true, true, true, true, true, true, true, true, true, true, true, true, true, true, true, true, true, true, true, true, true, true, true, true, true, true, false, false, false, false, false, false, false, false, false] rfl rfl (by kernel_rfl) (fun _ _ _ h_ => h_) (Or.inl ⟨by rfl, ?_⟩) hHeld ?_ ?_
            rotate_left
            · intro w_ hSw
              (obtain ⟨hz0, hz1, hz2, hz3, hz4⟩ := hSw)
              go_simp
              first | done | with_reducible rfl
            rotate_left
            · simp only [Act.put, List.setIfInBounds_toArray, List.set_cons_zero, List.set_cons_succ]
              rfl
            refine take_ (i := 31) (N := some 39) (v := ?_) (a' := ?_) #[true, true, true, true, true, true, true, true, true, true, true, true, true, true, true, true, true, true, true, true, true, true, true, true, true, true, true, true, true, true, true, true, false, false, false, false, false, false, false, false] rfl rfl (by kernel_rfl) (fun _ _ _ h_ => h_) (Or.inl ⟨by rfl, ?_⟩) hHeld ?_ ?_
            rotate_left
            · intro w_ hSw
              (obtain ⟨hz0, hz1, hz2, hz3, hz4⟩ := hSw)
              go_simp
              first | done | with_reducible rfl
            rotate_left
            · simp only [Act.put, List.setIfInBounds_toArray, List.set_cons_zero, List.set_cons_succ]
              rfl
            refine take_ (i := 32) (N := some 40) (v := ?_) (a' := ?_) #[true, true, true, true, true, true, true, true, true, true, true, true, true, true, true, true, true, true, true, true, true, true, true, true, true, true, true, true, true, true, true, true, true, false, false, false, false, false, false, false] rfl rfl (by kernel_rfl) (fun _ _ _ h_ => h_) (Or.inl ⟨by rfl, ?_⟩) hHeld ?_ ?_
            rotate_left
            · intro w_ hSw
              (obtain ⟨hz0, hz1, hz2, hz3, hz4⟩ := hSw)
              go_simp
              first | done | with_reducible rfl
            rotate_left
            · simp only [Act.put, List.setIfInBounds_toArray, List.set_cons_zero, List.set_cons_succ]
              rfl
            refine take_ (i := 33) (N := some 41) (v := ?_) (a' := ?_) #[true, true, true, true, true, true, true, true, true, true, true, true, true, true, true, true, true, true, true, true, true, true, true, true, true, true, true, true, true, true, true, true, true, true, false, false, false, false, false, false] rfl rfl (by kernel_rfl) (fun _ _ _ h_ => h_) (Or.inl ⟨by rfl, ?_⟩) hHeld ?_ ?_
            rotate_left
            · intro w_ hSw
              (obtain ⟨hz0, hz1, hz2, hz3, hz4⟩ := hSw)
              go_simp
              first | done | with_reducible rfl
            rotate_left
            · simp only [Act.put, List.setIfInBounds_toArray, List.set_cons_zero, List.set_cons_succ]
              rfl
            refine take_ (i := 34) (N := some 42) (v := ?_) (a' := ?_) #[true, true, true, true, true, true, true, true, true, true, true, true, true, true, true, true, true, true, true, true, true, true, true, true, true, true, true, true, true, true, true, true, true, true, true, false, false, false, false, false] rfl rfl (by kernel_rfl) (fun _ _ _ h_ => h_) (Or.inl ⟨by rfl, ?_⟩) hHeld ?_ ?_
            rotate_left
            · intro w_ hSw
              (obtain ⟨hz0, hz1, hz2, hz3, hz4⟩ := hSw)
              go_simp
              first | done | with_reducible rfl
            rotate_left
            · simp only [Act.put, List.setIfInBounds_toArray, List.set_cons_zero, List.set_cons_succ]
              rfl
            refine take_ (i := 35) (N := some 43) (v := ?_) (a' := ?_) #[true, true, true, true, true, true, true, true, true, true, true, true, true, true, true, true, true, true, true, true, true, true, true, true, true, true, true, true, true, true, true, true, true, true, true, true, false, false, false, false] rfl rfl (by kernel_rfl) (fun _ _ _ h_ => h_) (Or.inl ⟨by rfl, ?_⟩) hHeld ?_ ?_
            rotate_left
            · intro w_ hSw
              (obtain ⟨hz0, hz1, hz2, hz3, hz4⟩ := hSw)
              go_simp
              first | done | with_reducible rfl
            rotate_left
            · simp only [Act.put, List.setIfInBounds_toArray, List.set_cons_zero, List.set_cons_succ]
              rfl
            refine take_ (i := 36) (N := some 44) (v := ?_) (a' := ?_) #[true, true, true, true, true, true, true, true, true, true, true, true, true, true, true, true, true, true, true, true, true, true, true, true, true, true, true, true, true, true, true, true, true, true, true, true, true, false, false, false] rfl rfl (by kernel_rfl) (fun _ _ _ h_ => h_) (Or.inl ⟨by rfl, ?_⟩) hHeld ?_ ?_
            rotate_left
            · intro w_ hSw
              (obtain ⟨hz0, hz1, hz2, hz3, hz4⟩ := hSw)
              go_simp
              first | done | with_reducible rfl
            rotate_left
            · simp only [Act.put, List.setIfInBounds_toArray, List.set_cons_zero, List.set_cons_succ]
              rfl
            refine take_ (i := 37) (N := some 45) (v := ?_) (a' := ?_) #[true, true, true, true, true, true, true, true, true, true, true, true, true, true, true, true, true, true, true, true, true, true, true, true, true, true, true, true, true, true, true, true, true, true, true, true, true, true, false, false] rfl rfl (by kernel_rfl) (fun _ _ _ h_ => h_) (Or.inl ⟨by rfl, ?_⟩) hHeld ?_ ?_
            rotate_left
            · intro w_ hSw
              (obtain ⟨hz0, hz1, hz2, hz3, hz4⟩ := hSw)
              go_simp
              first | done | with_reducible rfl
            rotate_left
            · simp only [Act.put, List.setIfInBounds_toArray, List.set_cons_zero, List.set_cons_succ]
              rfl
            refine take_ (i := 38) (N := some 46) (v := ?_) (a' := ?_) #[true, true, true, true, true, true, true, true, true, true, true, true, true, true, true, true, true, true, true, true, true, true, true, true, true, true, true, true, true, true, true, true, true, true, true, true, true, true, true, false] rfl rfl (by kernel_rfl) (fun _ _ _ h_ => h_) (Or.inl ⟨by rfl, ?_⟩) hHeld ?_ ?_
            rotate_left
            · intro w_ hSw
              (obtain ⟨hz0, hz1, hz2, hz3, hz4⟩ := hSw)
              go_simp
              first | done | with_reducible rfl
            rotate_left
            · simp only [Act.put, List.setIfInBounds_toArray, List.set_cons_zero, List.set_cons_succ]
              rfl
            refine take_ (i := 39) (N := some 47) (v := ?_) (a' := ?_) #[true, true, true, true, true, true, true, true, true, true, true, true, true, true, true, true, true, true, true, true, true, true, true, true, true, true, true, true, true, true, true, true, true, true, true, true, true, true, true, true] rfl rfl (by kernel_rfl) (fun _ _ _ h_ => h_) (Or.inl ⟨by rfl, ?_⟩) hHeld ?_ ?_
            rotate_left
            · intro w_ hSw
              (obtain ⟨hz0, hz1, hz2, hz3, hz4⟩ := hSw)
              go_simp
              first | done | with_reducible rfl
            rotate_left
            · simp only [Act.put, List.setIfInBounds_toArray, List.set_cons_zero, List.set_cons_succ]
              rfl
            refine done_ (by kernel_rfl) ?_
            have hq0 : (w.alloc (.cells #[.slice A1 xs.length c1, .int .i64 y] 103)).drew.cell? ⟨w.heap.size, 0, none⟩ = some (.slice A1 xs.length c1) := ZA.out
            have H7 := Aside0.mk (show Below w.heap.size w (w.alloc (.cells #[.slice A1 xs.length c1, .int .i64 y] 103)).drew from Below.grown BL.out (cR.drew1 _) (below_size BL.out) (fun k e => by cases e))
            have HR7 := Aside0.mk (show cS.RD ((w.alloc (.cells #[.slice A1 xs.length c1, .int .i64 y] 103)).drew) (.slice A1 xs.length c1) xs from HR.out.below H7.out)
            generalize World.drew _ = w5 at hq0 H7 HR7 ⊢
            clear z0 z1 z2 z3 z4 d1t cyt p1 p2 p3 HP1 d2t
            have hlt5 := below_size H7.out
            have hq1 := fun o => Lib.cell?_alloc_some o hq0
            go_wp2_with (refine (cS.cat3 HR7.out H5.out (-1) (-2)).mono ?_; rintro e w6 ⟨v0, rfl, hr6, hb6⟩; have H6 := Aside0.mk hr6; have HB6 := Aside0.mk (Below.trans H7.out (Below.mono hb6 hlt5)); clear hr6 hb6)
            go_ret
            exact ⟨_, rfl, by rw [HM.out, if_pos HP.out]; exact H6.out, HB6.out⟩
          | false =>
            have HP := Aside0.mk (show cS.markp l0 y x false = false by rw [HP1.out]; simp [cyt, d1])
            clear d1
            go_enter Try.func58, Try.ntmps58
            go_wp2
            refine start_ (n := 40) (S := (fun w' => w'.cell? ⟨w.heap.size, 1, none⟩ = some (.int .i64 y) ∧ w'.cell? ⟨g, 0, none⟩ = some (.slice (some adx) l0.length c0) ∧ w'.cell? (adx.add (y.toNat * 2)) = some (.int .i64 a0) ∧ w'.cell? (adx.add (x.toNat * 2)) = some (.int .i64 a0) ∧ w'.cell? ⟨(adx.add (x.toNat * 2)).block, (adx.add (x.toNat * 2)).off + 1, none⟩ = some (.bool false))) (ds := []) #[false, false, false, false, false, false, false, false, false, false, false, false, false, false, false, false, false, false, false, false, false, false, false, false, false, false, false, false, false, false, false, false, false, false, false, false, false, false, false, false] (by kernel_rfl) rfl rfl (⟨z0, z1, z2, z3, z4⟩) (fun hHeld => ?_)
            refine take_ (i := 0) (N := some 8) (v := ?_) (a' := ?_) #[true, false, false, false, false, false, false, false, false, false, false, false, false, false, false, false, false, false, false, false, false, false, false, false, false, false, false, false, false, false, false, false, false, false, false, false, false, false, false, false] rfl rfl (by kernel_rfl) (fun _ _ _ h_ => h_) (Or.inl ⟨by rfl, ?_⟩) hHeld ?_ ?_
            rotate_left
            · intro w_ hSw
              (obtain ⟨hz0, hz1, hz2, hz3, hz4⟩ := hSw)
              go_simp
              first | done | with_reducible rfl
            rotate_left
            · simp only [Act.put, List.setIfInBounds_toArray, List.set_cons_zero, List.set_cons_succ]
              rfl
            refine take_ (i := 1) (N := some 9) (v := ?_) (a' := ?_) #[true, true, false, false, false, false, false, false, false, false, false, false, false, false, false, false, false, false, false, false, false, false, false, false, false, false, false, false, false, false, false, false, false, false, false, false, false, false, false, false] rfl rfl (by kernel_rfl) (fun _ _ _ h_ => h_) (Or.inl ⟨by rfl, ?_⟩) hHeld ?_ ?_
            rotate_left
            · intro w_ hSw
              (obtain ⟨hz0, hz1, hz2, hz3, hz4⟩ := hSw)
              go_simp
              first | done | with_reducible rfl
            rotate_left
            · simp only [Act.put, List.setIfInBounds_toArray, List.set_cons_zero, List.set_cons_succ]
              rfl
            refine take_ (i := 2) (N := some 10) (v := ?_) (a' := ?_) #[true, true, true, false, false, false, false, false, false, false, false, false, false, false, false, false, false, false, false, false, false, false, false, false, false, false, false, false, false, false, false, false, false, false, false, false, false, false, false, false] rfl rfl (by kernel_rfl) (fun _ _ _ h_ => h_) (Or.inl ⟨by rfl, ?_⟩) hHeld ?_ ?_
            rotate_left
            · intro w_ hSw
              (obtain ⟨hz0, hz1, hz2, hz3, hz4⟩ := hSw)
              go_simp
              first | done | with_reducible rfl
            rotate_left
            · simp only [Act.put, List.setIfInBounds_toArray, List.set_cons_zero, List.set_cons_succ]
              rfl
            refine take_ (i := 3) (N := some 11) (v := ?_) (a' := ?_) #[true, true, true, true, false, false, false, false, false, false, false, false, false, false, false, false, false, false, false, false, false, false, false, false, false, false, false, false, false, false, false, false, false, false, false, false, false, false, false, false] rfl rfl (by kernel_rfl) (fun _ _ _ h_ => h_) (Or.inl ⟨by rfl, ?_⟩) hHeld ?_ ?_
            rotate_left
            · intro w_ hSw
              (obtain ⟨hz0, hz1, hz2, hz3, hz4⟩ := hSw)
              go_simp
              first | done | with_reducible rfl
            rotate_left
            · simp only [Act.put, List.setIfInBounds_toArray, List.set_cons_zero, List.set_cons_succ]
              rfl
            refine take_ (i := 4) (N := some 12) (v := ?_) (a' := ?_) #[true, true, true, true, true, false, false, false, false, false, false, false, false, false, false, false, false, false, false, false, false, false, false, false, false, false, false, false, false, false, false, false, false, false, false, false, false, false, false, false] rfl rfl (by kernel_rfl) (fun _ _ _ h_ => h_) (Or.inl ⟨by rfl, ?_⟩) hHeld ?_ ?_
            rotate_left
            · intro w_ hSw
              (obtain ⟨hz0, hz1, hz2, hz3, hz4⟩ := hSw)
              go_simp
              first | done | with_reducible rfl
            rotate_left
            · simp only [Act.put, List.setIfInBounds_toArray, List.set_cons_zero, List.set_cons_succ]
              rfl
            refine take_ (i := 5) (N := some 13) (v := ?_) (a' := ?_) #[true, true, true, true, true, true, false, false, false, false, false, false, false, false, false, false, false, false, false, false, false, false, false, false, false, false, false, false, false, false, false, false, false, false, false, false, false, false, false, false] rfl rfl (by kernel_rfl) (fun _ _ _ h_ => h_) (Or.inl ⟨by rfl, ?_⟩) hHeld ?_ ?_
            rotate_left
            · intro w_ hSw
              (obtain ⟨hz0, hz1, hz2, hz3, hz4⟩ := hSw)
              go_simp
              first | done | with_reducible rfl
            rotate_left
            · simp only [Act.put, List.setIfInBounds_toArray, List.set_cons_zero, List.set_cons_succ]
              rfl
            refine take_ (i := 6) (N := some 14) (v := ?_) (a' := ?_) #[true, true, true, true, true, true, true, false, false, false, false, false, false, false, false, false, false, false, false, false, false, false, false, false, false, false, false, false, false, false, false, false, false, false, false, false, false, false, false, false] rfl rfl (by kernel_rfl) (fun _ _ _ h_ => h_) (Or.inl ⟨by rfl, ?_⟩) hHeld ?_ ?_
            rotate_left
            · intro w_ hSw
              (obtain ⟨hz0, hz1, hz2, hz3, hz4⟩ := hSw)
              go_simp
              first | done | with_reducible rfl
            rotate_left
            · simp only [Act.put, List.setIfInBounds_toArray, List.set_cons_zero, List.set_cons_succ]
              rfl
            refine take_ (i := 7) (N := some 15) (v := ?_) (a' := ?_) #[true, true, true, true, true, true, true, true, false, false, false, false, false, false, false, false, false, false, false, false, false, false, false, false, false, false, false, false, false, false, false, false, false, false, false, false, false, false, false, false] rfl rfl (by kernel_rfl) (fun _ _ _ h_ => h_) (Or.inl ⟨by rfl, ?_⟩) hHeld ?_ ?_
            rotate_left
            · intro w_ hSw
              (obtain ⟨hz0, hz1, hz2, hz3, hz4⟩ := hSw)
              go_simp
              first | done | with_reducible rfl
            rotate_left
            · simp only [Act.put, List.setIfInBounds_toArray, List.set_cons_zero, List.set_cons_succ]
              rfl
            refine take_ (i := 8) (N := some 16) (v := ?_) (a' := ?_) #[true, true, true, true, true, true, true, true, true, false, false, false, false, false, false, false, false, false, false, false, false, false, false, false, false, false, false, false, false, false, false, false, false, false, false, false, false, false, false, false] rfl rfl (by kernel_rfl) (fun _ _ _ h_ => h_) (Or.inl ⟨by rfl, ?_⟩) hHeld ?_ ?_
            rotate_left
            · intro w_ hSw
              (obtain ⟨hz0, hz1, hz2, hz3, hz4⟩ := hSw)
              go_simp
              first | done | with_reducible rfl
            rotate_left
            · simp only [Act.put, List.setIfInBounds_toArray, List.set_cons_zero, List.set_cons_succ]
              rfl
            refine take_ (i := 9) (N := some 17) (v := ?_) (a' := ?_) #[true, true, true, true, true, true, true, true, true, true, false, false, false, false, false, false, false, false, false, false, false, false, false, false, false, false, false, false, false, false, false, false, false, false, false, false, false, false, false, false] rfl rfl (by kernel_rfl) (fun _ _ _ h_ => h_) (Or.inl ⟨by rfl, ?_⟩) hHeld ?_ ?_
            rotate_left
            · intro w_ hSw
              (obtain ⟨hz0, hz1, hz2, hz3, hz4⟩ := hSw)
              go_simp
              first | done | with_reducible rfl
            rotate_left
            · simp only [Act.put, List.setIfInBounds_toArray, List.set_cons_zero, List.set_cons_succ]
              rfl
            refine take_ (i := 10) (N := some 18) (v := ?_) (a' := ?_) #[true, true, true, true, true, true, true, true, true, true, true, false, false, false, false, false, false, false, false, false, false, false, false, false, false, false, false, false, false, false, false, false, false, false, false, false, false, false, false, false] rfl rfl (by kernel_rfl) (fun _ _ _ h_ => h_) (Or.inl ⟨by rfl, ?_⟩) hHeld ?_ ?_
            rotate_left
            · intro w_ hSw
              (obtain ⟨hz0, hz1, hz2, hz3, hz4⟩ := hSw)
              go_simp
              first | done | with_reducible rfl
            rotate_left
            · simp only [Act.put, List.setIfInBounds_toArray, List.set_cons_zero, List.set_cons_succ]
              rfl
            refine take_ (i := 11) (N := some 19) (v := ?_) (a' := ?_) #[true, true, true, true, true, true, true, true, true, true, true, true, false, false, false, false, false, false, false, false, false, false, false, false, false, false, false, false, false, false, false, false, false, false, false, false, false, false, false, false] rfl rfl (by kernel_rfl) (fun _ _ _ h_ => h_) (Or.inl ⟨by rfl, ?_⟩) hHeld ?_ ?_
            rotate_left
            · intro w_ hSw
              (obtain ⟨hz0, hz1, hz2, hz3, hz4⟩ := hSw)
              go_simp
              first | done | with_reducible rfl
            rotate_left
            · simp only [Act.put, List.setIfInBounds_toArray, List.set_cons_zero, List.set_cons_succ]
              rfl
            refine take_ (i := 12) (N := some 20) (v := ?_) (a' := ?_) #[true, true, true, true, true, true, true, true, true, true, true, true, true, false, false, false, false, false, false, false, false, false, false, false, false, false, false, false, false, false, false, false, false, false, false, false, false, false, false, false] rfl rfl (by kernel_rfl) (fun _ _ _ h_ => h_) (Or.inl ⟨by rfl, ?_⟩) hHeld ?_ ?_
            rotate_left
            · intro w_ hSw
              (obtain ⟨hz0, hz1, hz2, hz3, hz4⟩ := hSw)
              go_simp
              first | done | with_reducible rfl
            rotate_left
            · simp only [Act.put, List.setIfInBounds_toArray, List.set_cons_zero, List.set_cons_succ]
              rfl
            refine take_ (i := 13) (N := some 21) (v := ?_) (a' := ?_) #[true, true, true, true, true, true, true, true, true, true, true, true, true, true, false, false, false, false, false, false, false, false, false, false, false, false, false, false, false, false, false, false, false, false, false, false, false, false, false, false] rfl rfl (by kernel_rfl) (fun _ _ _ h_ => h_) (Or.inl ⟨by rfl, ?_⟩) hHeld ?_ ?_
            rotate_left
            · intro w_ hSw
              (obtain ⟨hz0, hz1, hz2, hz3, hz4⟩ := hSw)
              go_simp
              first | done | with_reducible rfl
            rotate_left
            · simp only [Act.put, List.setIfInBounds_toArray, List.set_cons_zero, List.set_cons_succ]
              rfl
            refine take_ (i := 14) (N := some 22) (v := ?_) (a' := ?_) #[true, true, true, true, true, true, true, true, true, true, true, true, true, true, true, false, false, false, false, false, false, false, false, false, false, false, false, false, false, false, false, false, false, false, false, false, false, false, false, false] rfl rfl (by kernel_rfl) (fun _ _ _ h_ => h_) (Or.inl ⟨by rfl, ?_⟩) hHeld ?_ ?_
            rotate_left
            · intro w_ hSw
              (obtain ⟨hz0, hz1, hz2, hz3, hz4⟩ := hSw)
              go_simp
              first | done | with_reducible rfl
            rotate_left
            · simp only [Act.put, List.setIfInBounds_toArray, List.set_cons_zero, List.set_cons_succ]
              rfl
            refine take_ (i := 15) (N := some 23) (v := ?_) (a' := ?_) #[true, true, true, true, true, true, true, true, true, true, true, true, true, true, true, true, false, false, false, false, false, false, false, false, false, false, false, false, false, false, false, false, false, false, false, false, false, false, false, false] rfl rfl (by kernel_rfl) (fun _ _ _ h_ => h_) (Or.inl ⟨by rfl, ?_⟩) hHeld ?_ ?_
            rotate_left
            · intro w_ hSw
              (obtain ⟨hz0, hz1, hz2, hz3, hz4⟩ := hSw)
              go_simp
              first | done | with_reducible rfl
            rotate_left
            · simp only [Act.put, List.setIfInBounds_toArray, List.set_cons_zero, List.set_cons_succ]
              rfl
            refine take_ (i := 16) (N := some 24) (v := ?_) (a' := ?_) #[true, true, true, true, true, true, true, true, true, true, true, true, true, true, true, true, true, false, false, false, false, false, false, false, false, false, false, false, false, false, false, false, false, false, false, false, false, false, false, false] rfl rfl (by kernel_rfl) (fun _ _ _ h_ => h_) (Or.inl ⟨by rfl, ?_⟩) hHeld ?_ ?_
            rotate_left
            · intro w_ hSw
              (obtain ⟨hz0, hz1, hz2, hz3, hz4⟩ := hSw)
              go_simp
              first | done | with_reducible rfl
            rotate_left
            · simp only [Act.put, List.setIfInBounds_toArray, List.set_cons_zero, List.set_cons_succ]
              rfl
            refine take_ (i := 17) (N := some 25) (v := ?_) (a' := ?_) #[true, true, true, true, true, true, true, true, true, true, true, true, true, true, true, true, true, true, false, false, false, false, false, false, false, false, false, false, false, false, false, false, false, false, false, false, false, false, false, false] rfl rfl (by kernel_rfl) (fun _ _ _ h_ => h_) (Or.inl ⟨by rfl, ?_⟩) hHeld ?_ ?_
            rotate_left
            · intro w_ hSw
              (obtain ⟨hz0, hz1, hz2, hz3, hz4⟩ := hSw)
              go_simp
              first | done | with_reducible rfl
            rotate_left
            · simp only [Act.put, List.setIfInBounds_toArray, List.set_cons_zero, List.set_cons_succ]
              rfl
            refine take_ (i := 18) (N := some 26) (v := ?_) (a' := ?_) #[true, true, true, true, true, true, true, true, true, true, true, true, true, true, true, true, true, true, true, false, false, false, false, false, false, false, false, false, false, false, false, false, false, false, false, false, false, false, false, false] rfl rfl (by kernel_rfl) (fun _ _ _ h_ => h_) (Or.inl ⟨by rfl, ?_⟩) hHeld ?_ ?_
            rotate_left
            · intro w_ hSw
              (obtain ⟨hz0, hz1, hz2, hz3, hz4⟩ := hSw)
              go_simp
              first | done | with_reducible rfl
            rotate_left
            · simp only [Act.put, List.setIfInBounds_toArray, List.set_cons_zero, List.set_cons_succ]
              rfl
            refine take_ (i := 19) (N := some 27) (v := ?_) (a' := ?_) #[true, true, true, true, true, true, true, true, true, true, true, true, true, true, true, true, true, true, true, true, false, false, false, false, false, false, false, false, false, false, false, false, false, false, false, false, false, false, false, false] rfl rfl (by kernel_rfl) (fun _ _ _ h_ => h_) (Or.inl ⟨by rfl, ?_⟩) hHeld ?_ ?_
            rotate_left
            · intro w_ hSw
              (obtain ⟨hz0, hz1, hz2, hz3, hz4⟩ := hSw)
              go_simp
              first | done | with_reducible rfl
            rotate_left
            · simp only [Act.put, List.setIfInBounds_toArray, List.set_cons_zero, List.set_cons_succ]
              rfl
            refine take_ (i := 20) (N := some 28) (v := ?_) (a' := ?_) #[true, true, true, true, true, true, true, true, true, true, true, true, true, true, true, true, true, true, true, true, true, false, false, false, false, false, false, false, false, false, false, false, false, false, false, false, false, false, false, false] rfl rfl (by kernel_rfl) (fun _ _ _ h_ => h_) (Or.inl ⟨by rfl, ?_⟩) hHeld ?_ ?_
            rotate_left
            · intro w_ hSw
              (obtain ⟨hz0, hz1, hz2, hz3, hz4⟩ := hSw)
              go_simp
              first | done | with_reducible rfl
            rotate_left
            · simp only [Act.put, List.setIfInBounds_toArray, List.set_cons_zero, List.set_cons_succ]
              rfl
            refine take_ (i := 21) (N := some 29) (v := ?_) (a' := ?_) #[true, true, true, true, true, true, true, true, true, true, true, true, true, true, true, true, true, true, true, true, true, true, false, false, false, false, false, false, false, false, false, false, false, false, false, false, false, false, false, false] rfl rfl (by kernel_rfl) (fun _ _ _ h_ => h_) (Or.inl ⟨by rfl, ?_⟩) hHeld ?_ ?_
            rotate_left
            · intro w_ hSw
              (obtain ⟨hz0, hz1, hz2, hz3, hz4⟩ := hSw)
              go_simp
              first | done | with_reducible rfl
            rotate_left
            · simp only [Act.put, List.setIfInBounds_toArray, List.set_cons_zero, List.set_cons_succ]
              rfl
            refine take_ (i := 22) (N := some 30) (v := ?_) (a' := ?_) #[true, true, true, true, true, true, true, true, true, true, true, true, true, true, true, true, true, true, true, true, true, true, true, false, false, false, false, false, false, false, false, false, false, false, false, false, false, false, false, false] rfl rfl (by kernel_rfl) (fun _ _ _ h_ => h_) (Or.inl ⟨by rfl, ?_⟩) hHeld ?_ ?_
            rotate_left
            · intro w_ hSw
              (obtain ⟨hz0, hz1, hz2, hz3, hz4⟩ := hSw)
              go_simp
              first | done | with_reducible rfl
            rotate_left
            · simp only [Act.put, List.setIfInBounds_toArray, List.set_cons_zero, List.set_cons_succ]
              rfl
            refine take_ (i := 23) (N := some 31) (v := ?_) (a' := ?_) #[true, true, true, true, true, true, true, true, true, true, true, true, true, true, true, true, true, true, true, true, true, true, true, true, false, false, false, false, false, false, false, false, false, false, false, false, false, false, false, false] rfl rfl (by kernel_rfl) (fun _ _ _ h_ => h_) (Or.inl ⟨by rfl, ?_⟩) hHeld ?_ ?_
            rotate_left
            · intro w_ hSw
              (obtain ⟨hz0, hz1, hz2, hz3, hz4⟩ := hSw)
              go_simp
              first | done | with_reducible rfl
            rotate_left
            · simp only [Act.put, List.setIfInBounds_toArray, List.set_cons_zero, List.set_cons_succ]
              rfl
            refine take_ (i := 24) (N := some 32) (v := ?_) (a' := ?_) #[true, true, true, true, true, true, true, true, true, true, true, true, true, true, true, true, true, true, true, true, true, true, true, true, true, false, false, false, false, false, false, false, false, false, false, false, false, false, false, false] rfl rfl (by kernel_rfl) (fun _ _ _ h_ => h_) (Or.inl ⟨by rfl, ?_⟩) hHeld ?_ ?_
            rotate_left
            · intro w_ hSw
              (obtain ⟨hz0, hz1, hz2, hz3, hz4⟩ := hSw)
              go_simp
              first | done | with_reducible rfl
            rotate_left
            · simp only [Act.put, List.setIfInBounds_toArray, List.set_cons_zero, List.set_cons_succ]
              rfl
            refine take_ (i := 25) (N := some 33) (v := ?_) (a' := ?_) #[true, true, true, true, true, true, true, true, true, true, true, true, true, true, true, true, true, true, true, true, true, true, true, true, true, true, false, false, false, false, false, false, false, false, false, false, false, false, false, false] rfl rfl (by kernel_rfl) (fun _ _ _ h_ => h_) (Or.inl ⟨by rfl, ?_⟩) hHeld ?_ ?_
            rotate_left
            · intro w_ hSw
              (obtain ⟨hz0, hz1, hz2, hz3, hz4⟩ := hSw)
              go_simp
              first | done | with_reducible rfl
            rotate_left
            · simp only [Act.put, List.setIfInBounds_toArray, List.set_cons_zero, List.set_cons_succ]
              rfl
            refine take_ (i := 26) (N := some 34) (v := ?_) (a' := ?_) #[true, true, true, true, true, true, true, true, true, true, true, true, true, true, true, true, true, true, true, true, true, true, true, true, true, true, true, false, false, false, false, false, false, false, false, false, false, false, false, false] rfl rfl (by kernel_rfl) (fun _ _ _ h_ => h_) (Or.inl ⟨by rfl, ?_⟩) hHeld ?_ ?_
            rotate_left
            · intro w_ hSw
              (obtain ⟨hz0, hz1, hz2, hz3, hz4⟩ := hSw)
              go_simp
              first | done | with_reducible rfl
            rotate_left
            · simp only [Act.put, List.setIfInBounds_toArray, List.set_cons_zero, List.set_cons_succ]
              rfl
            refine take_ (i := 27) (N := some 35) (v := ?_) (a' := ?_) #[true, true, true, true, true, true, true, true, true, true, true, true, true, true, true, true, true, true, true, true, true, true, true, true, true, true, true, true, false, false, false, false, false, false, false, false, false, false, false, false] rfl rfl (by kernel_rfl) (fun _ _ _ h_ => h_) (Or.inl ⟨by rfl, ?_⟩) hHeld ?_ ?_
            rotate_left
            · intro w_ hSw
              (obtain ⟨hz0, hz1, hz2, hz3, hz4⟩ := hSw)
              go_simp
              first | done | with_reducible rfl
            rotate_left
            · simp only [Act.put, List.setIfInBounds_toArray, List.set_cons_zero, List.set_cons_succ]
              rfl
            refine take_ (i := 28) (N := some 36) (v := ?_) (a' := ?_) #[true, true, true, true, true, true, true, true, true, true, true, true, true, true, true, true, true, true, true, true, true, true, true, true, true, true, true, true, true, false, false, false, false, false, false, false, false, false, false, false] rfl rfl (by kernel_rfl) (fun _ _ _ h_ => h_) (Or.inl ⟨by rfl, ?_⟩) hHeld ?_ ?_
            rotate_left
            · intro w_ hSw
              (obtain ⟨hz0, hz1, hz2, hz3, hz4⟩ := hSw)
              go_simp
              first | done | with_reducible rfl
            rotate_left
            · simp only [Act.put, List.setIfInBounds_toArray, List.set_cons_zero, List.set_cons_succ]
              rfl
            refine take_ (i := 29) (N := some 37) (v := ?_) (a' := ?_) #[true, true, true, true, true, true, true, true, true, true, true, true, true, true, true, true, true, true, true, true, true, true, true, true, true, true, true, true, true, true, false, false, false, false, false, false, false, false, false, false] rfl rfl (by kernel_rfl) (fun _ _ _ h_ => h_) (Or.inl ⟨by rfl, ?_⟩) hHeld ?_ ?_
            rotate_left
            · intro w_ hSw
              (obtain ⟨hz0, hz1, hz2, hz3, hz4⟩ := hSw)
              go_simp
              first | done | with_reducible rfl
            rotate_left
            · simp only [Act.put, List.setIfInBounds_toArray, List.set_cons_zero, List.set_cons_succ]
              rfl
            refine take_ (i := 30) (N := some 38) (v := ?_) (a' := ?_) #[true, true, true, true, true, true, true, true, true, true, true, true, true, true, true, true, true, true, true, true, true, true, true, true, true, true, true, true, true, true, true, false, false, false, false, false, false, false, false, false] rfl rfl (by kernel_rfl) (fun _ _ _ h_ => h_) (Or.inl ⟨by rfl, ?_⟩) hHeld ?_ ?_
            rotate_left
            · intro w_ hSw
              (obtain ⟨hz0, hz1, hz2, hz3, hz4⟩ := hSw)
              go_simp
              first | done | with_reducible rfl
            rotate_left
            · simp only [Act.put, List.setIfInBounds_toArray, List.set_cons_zero, List.set_cons_succ]
              rfl
            refine take_ (i := 31) (N := some 39) (v := ?_) (a' := ?_) #[true, true, true, true, true, true, true, true, true, true, true, true, true, true, true, true, true, true, true, true, true, true, true, true, true, true, true, true, true, true, true, true, false, false, false, false, false, false, false, false] rfl rfl (by kernel_rfl) (fun _ _ _ h_ => h_) (Or.inl ⟨by rfl, ?_⟩) hHeld ?_ ?_
            rotate_left
            · intro w_ hSw
              (obtain ⟨hz0, hz1, hz2, hz3, hz4⟩ := hSw)
              go_simp
              first | done | with_reducible rfl
            rotate_left
            · simp only [Act.put, List.setIfInBounds_toArray, List.set_cons_zero, List.set_cons_succ]
              rfl
            refine take_ (i := 32) (N := some 40) (v := ?_) (a' := ?_) #[true, true, true, true, true, true, true, true, true, true, true, true, true, true, true, true, true, true, true, true, true, true, true, true, true, true, true, true, true, true, true, true, true, false, false, false, false, false, false, false] rfl rfl (by kernel_rfl) (fun _ _ _ h_ => h_) (Or.inl ⟨by rfl, ?_⟩) hHeld ?_ ?_
            rotate_left
            · intro w_ hSw
              (obtain ⟨hz0, hz1, hz2, hz3, hz4⟩ := hSw)
              go_simp
              first | done | with_reducible rfl
            rotate_left
            · simp only [Act.put, List.setIfInBounds_toArray, List.set_cons_zero, List.set_cons_succ]
              rfl
            refine take_ (i := 33) (N := some 41) (v := ?_) (a' := ?_) #[true, true, true, true, true, true, true, true, true, true, true, true, true, true, true, true, true, true, true, true, true, true, true, true, true, true, true, true, true, true, true, true, true, true, false, false, false, false, false, false] rfl rfl (by kernel_rfl) (fun _ _ _ h_ => h_) (Or.inl ⟨by rfl, ?_⟩) hHeld ?_ ?_
            rotate_left
            · intro w_ hSw
              (obtain ⟨hz0, hz1, hz2, hz3, hz4⟩ := hSw)
              go_simp
              first | done | with_reducible rfl
            rotate_left
            · simp only [Act.put, List.setIfInBounds_toArray, List.set_cons_zero, List.set_cons_succ]
              rfl
            refine take_ (i := 34) (N := some 42) (v := ?_) (a' := ?_) #[true, true, true, true, true, true, true, true, true, true, true, true, true, true, true, true, true, true, true, true, true, true, true, true, true, true, true, true, true, true, true, true, true, true, true, false, false, false, false, false] rfl rfl (by kernel_rfl) (fun _ _ _ h_ => h_) (Or.inl ⟨by rfl, ?_⟩) hHeld ?_ ?_
            rotate_left
            · intro w_ hSw
              (obtain ⟨hz0, hz1, hz2, hz3, hz4⟩ := hSw)
              go_simp
              first | done | with_reducible rfl
            rotate_left
            · simp only [Act.put, List.setIfInBounds_toArray, List.set_cons_zero, List.set_cons_succ]
              rfl
            refine take_ (i := 35) (N := some 43) (v := ?_) (a' := ?_) #[true, true, true, true, true, true, true, true, true, true, true, true, true, true, true, true, true, true, true, true, true, true, true, true, true, true, true, true, true, true, true, true, true, true, true, true, false, false, false, false] rfl rfl (by kernel_rfl) (fun _ _ _ h_ => h_) (Or.inl ⟨by rfl, ?_⟩) hHeld ?_ ?_
            rotate_left
            · intro w_ hSw
              (obtain ⟨hz0, hz1, hz2, hz3, hz4⟩ := hSw)
              go_simp
              first | done | with_reducible rfl
            rotate_left
            · simp only [Act.put, List.setIfInBounds_toArray, List.set_cons_zero, List.set_cons_succ]
              rfl
            refine take_ (i := 36) (N := some 44) (v := ?_) (a' := ?_) #[true, true, true, true, true, true, true, true, true, true, true, true, true, true, true, true, true, true, true, true, true, true, true, true, true, true, true, true, true, true, true, true, true, true, true, true, true, false, false, false] rfl rfl (by kernel_rfl) (fun _ _ _ h_ => h_) (Or.inl ⟨by rfl, ?_⟩) hHeld ?_ ?_
            rotate_left
            · intro w_ hSw
              (obtain ⟨hz0, hz1, hz2, hz3, hz4⟩ := hSw)
              go_simp
              first | done | with_reducible rfl
            rotate_left
            · simp only [Act.put, List.setIfInBounds_toArray, List.set_cons_zero, List.set_cons_succ]
              rfl
            refine take_ (i := 37) (N := some 45) (v := ?_) (a' := ?_) #[true, true, true, true, true, true, true, true, true, true, true, true, true, true, true, true, true, true, true, true, true, true, true, true, true, true, true, true, true, true, true, true, true, true, true, true, true, true, false, false] rfl rfl (by kernel_rfl) (fun _ _ _ h_ => h_) (Or.inl ⟨by rfl, ?_⟩) hHeld ?_ ?_
            rotate_left
            · intro w_ hSw
              (obtain ⟨hz0, hz1, hz2, hz3, hz4⟩ := hSw)
              go_simp
              first | done | with_reducible rfl
            rotate_left
            · simp only [Act.put, List.setIfInBounds_toArray, List.set_cons_zero, List.set_cons_succ]
              rfl
            refine take_ (i := 38) (N := some 46) (v := ?_) (a' := ?_) #[true, true, true, true, true, true, true, true, true, true, true, true, true, true, true, true, true, true, true, true, true, true, true, true, true, true, true, true, true, true, true, true, true, true, true, true, true, true, true, false] rfl rfl (by kernel_rfl) (fun _ _ _ h_ => h_) (Or.inl ⟨by rfl, ?_⟩) hHeld ?_ ?_
            rotate_left
            · intro w_ hSw
              (obtain ⟨hz0, hz1, hz2, hz3, hz4⟩ := hSw)
              go_simp
              first | done | with_reducible rfl
            rotate_left
            · simp only [Act.put, List.setIfInBounds_toArray, List.set_cons_zero, List.set_cons_succ]
              rfl
            refine take_ (i := 39) (N := some 47) (v := ?_) (a' := ?_) #[true, true, true, true, true, true, true, true, true, true, true, true, true, true, true, true, true, true, true, true, true, true, true, true, true, true, true, true, true, true, true, true, true, true, true, true, true, true, true, true] rfl rfl (by kernel_rfl) (fun _ _ _ h_ => h_) (Or.inl ⟨by rfl, ?_⟩) hHeld ?_ ?_
            rotate_left
            · intro w_ hSw
              (obtain ⟨hz0, hz1, hz2, hz3, hz4⟩ := hSw)
              go_simp
              first | done | with_reducible rfl
            rotate_left
            · simp only [Act.put, List.setIfInBounds_toArray, List.set_cons_zero, List.set_cons_succ]
              rfl
            refine done_ (by kernel_rfl) ?_
            have hq0 : (w.alloc (.cells #[.slice A1 xs.length c1, .int .i64 y] 103)).drew.cell? ⟨w.heap.size, 0, none⟩ = some (.slice A1 xs.length c1) := ZA.out
            have H7 := Aside0.mk (show Below w.heap.size w (w.alloc (.cells #[.slice A1 xs.length c1, .int .i64 y] 103)).drew from Below.grown BL.out (cR.drew1 _) (below_size BL.out) (fun k e => by cases e))
            have HR7 := Aside0.mk (show cS.RD ((w.alloc (.cells #[.slice A1 xs.length c1, .int .i64 y] 103)).drew) (.slice A1 xs.length c1) xs from HR.out.below H7.out)
            generalize World.drew _ = w5 at hq0 H7 HR7 ⊢
            clear z0 z1 z2 z3 z4 d1t cyt p1 p2 p3 HP1 d2t
            go_wp2
            go_ret
            exact ⟨_, rfl, by rw [HM.out, if_neg (by rw [HP.out]; simp)]; exact HR7.out, H7.out⟩
      · have d2t : (a0 == b0) = false := by rw [beq_eq_false_iff_ne]; exact d2
        have HP := Aside0.mk (show cS.markp l0 y x right = false by rw [HP1.out]; simp [cyt, d1, d2t])
        clear d1 d2
        go_enter Try.func58, Try.ntmps58
        go_wp2
        refine start_ (n := 40) (S := (fun w' => w'.cell? ⟨w.heap.size, 1, none⟩ = some (.int .i64 y) ∧ w'.cell? ⟨g, 0, none⟩ = some (.slice (some adx) l0.length c0) ∧ w'.cell? (adx.add (y.toNat * 2)) = some (.int .i64 a0) ∧ w'.cell? (adx.add (x.toNat * 2)) = some (.int .i64 b0) ∧ w'.cell? ⟨(adx.add (x.toNat * 2)).block, (adx.add (x.toNat * 2)).off + 1, none⟩ = some (.bool b1))) (ds := []) #[false, false, false, false, false, false, false, false, false, false, false, false, false, false, false, false, false, false, false, false, false, false, false, false, false, false, false, false, false, false, false, false, false, false, false, false, false, false, false, false] (by kernel_rfl) rfl rfl (⟨z0, z1, z2, z3, z4⟩) (fun hHeld => ?_)
        refine take_ (i := 0) (N := some 8) (v := ?_) (a' := ?_) #[true, false, false, false, false, false, false, false, false, false, false, false, false, false, false, false, false, false, false, false, false, false, false, false, false, false, false, false, false, false, false, false, false, false, false, false, false, false, false, false] rfl rfl (by kernel_rfl) (fun _ _ _ h_ => h_) (Or.inl ⟨by rfl, ?_⟩) hHeld ?_ ?_
        rotate_left
        · intro w_ hSw
          (obtain ⟨hz0, hz1, hz2, hz3, hz4⟩ := hSw)
          go_simp
          first | done | with_reducible rfl
        rotate_left
        · simp only [Act.put, List.setIfInBounds_toArray, List.set_cons_zero, List.set_cons_succ]
          rfl
        refine take_ (i := 1) (N := some 9) (v := ?_) (a' := ?_) #[true, true, false, false, false, false, false, false, false, false, false, false, false, false, false, false, false, false, false, false, false, false, false, false, false, false, false, false, false, false, false, false, false, false, false, false, false, false, false, false] rfl rfl (by kernel_rfl) (fun _ _ _ h_ => h_) (Or.inl ⟨by rfl, ?_⟩) hHeld ?_ ?_
        rotate_left
        · intro w_ hSw
          (obtain ⟨hz0, hz1, hz2, hz3, hz4⟩ := hSw)
          go_simp
          first | done | with_reducible rfl
        rotate_left
        · simp only [Act.put, List.setIfInBounds_toArray, List.set_cons_zero, List.set_cons_succ]
          rfl
        refine take_ (i := 2) (N := some 10) (v := ?_) (a' := ?_) #[true, true, true, false, false, false, false, false, false, false, false, false, false, false, false, false, false, false, false, false, false, false, false, false, false, false, false, false, false, false, false, false, false, false, false, false, false, false, false, false] rfl rfl (by kernel_rfl) (fun _ _ _ h_ => h_) (Or.inl ⟨by rfl, ?_⟩) hHeld ?_ ?_
        rotate_left
        · intro w_ hSw
          (obtain ⟨hz0, hz1, hz2, hz3, hz4⟩ := hSw)
          go_simp
          first | done | with_reducible rfl
        rotate_left
        · simp only [Act.put, List.setIfInBounds_toArray, List.set_cons_zero, List.set_cons_succ]
          rfl
        refine take_ (i := 3) (N := some 11) (v := ?_) (a' := ?_) #[true, true, true, true, false, false, false, false, false, false, false, false, false, false, false, false, false, false, false, false, false, false, false, false, false, false, false, false, false, false, false, false, false, false, false, false, false, false, false, false] rfl rfl (by kernel_rfl) (fun _ _ _ h_ => h_) (Or.inl ⟨by rfl, ?_⟩) hHeld ?_ ?_
        rotate_left
        · intro w_ hSw
          (obtain ⟨hz0, hz1, hz2, hz3, hz4⟩ := hSw)
          go_simp
          first | done | with_reducible rfl
        rotate_left
        · simp only [Act.put, List.setIfInBounds_toArray, List.set_cons_zero, List.set_cons_succ]
          rfl
        refine take_ (i := 4) (N := some 12) (v := ?_) (a' := ?_) #[true, true, true, true, true, false, false, false, false, false, false, false, false, false, false, false, false, false, false, false, false, false, false, false, false, false, false, false, false, false, false, false, false, false, false, false, false, false, false, false] rfl rfl (by kernel_rfl) (fun _ _ _ h_ => h_) (Or.inl ⟨by rfl, ?_⟩) hHeld ?_ ?_
        rotate_left
        · intro w_ hSw
          (obtain ⟨hz0, hz1, hz2, hz3, hz4⟩ := hSw)
          go_simp
          first | done | with_reducible rfl
        rotate_left
        · simp only [Act.put, List.setIfInBounds_toArray, List.set_cons_zero, List.set_cons_succ]
          rfl
        refine take_ (i := 5) (N := some 13) (v := ?_) (a' := ?_) #[true, true, true, true, true, true, false, false, false, false, false, false, false, false, false, false, false, false, false, false, false, false, false, false, false, false, false, false, false, false, false, false, false, false, false, false, false, false, false, false] rfl rfl (by kernel_rfl) (fun _ _ _ h_ => h_) (Or.inl ⟨by rfl, ?_⟩) hHeld ?_ ?_
        rotate_left
        · intro w_ hSw
          (obtain ⟨hz0, hz1, hz2, hz3, hz4⟩ := hSw)
          go_simp
          first | done | with_reducible rfl
        rotate_left
        · simp only [Act.put, List.setIfInBounds_toArray, List.set_cons_zero, List.set_cons_succ]
          rfl
        refine take_ (i := 6) (N := some 14) (v := ?_) (a' := ?_) #[true, true, true, true, true, true, true, false, false, false, false, false, false, false, false, false, false, false, false, false, false, false, false, false, false, false, false, false, false, false, false, false, false, false, false, false, false, false, false, false] rfl rfl (by kernel_rfl) (fun _ _ _ h_ => h_) (Or.inl ⟨by rfl, ?_⟩) hHeld ?_ ?_
        rotate_left
        · intro w_ hSw
          (obtain ⟨hz0, hz1, hz2, hz3, hz4⟩ := hSw)
          go_simp
          first | done | with_reducible rfl
        rotate_left
        · simp only [Act.put, List.setIfInBounds_toArray, List.set_cons_zero, List.set_cons_succ]
          rfl
        refine take_ (i := 7) (N := some 15) (v := ?_) (a' := ?_) #[true, true, true, true, true, true, true, true, false, false, false, false, false, false, false, false, false, false, false, false, false, false, false, false, false, false, false, false, false, false, false, false, false, false, false, false, false, false, false, false] rfl rfl (by kernel_rfl) (fun _ _ _ h_ => h_) (Or.inl ⟨by rfl, ?_⟩) hHeld ?_ ?_
        rotate_left
        · intro w_ hSw
          (obtain ⟨hz0, hz1, hz2, hz3, hz4⟩ := hSw)
          go_simp
          first | done | with_reducible rfl
        rotate_left
        · simp only [Act.put, List.setIfInBounds_toArray, List.set_cons_zero, List.set_cons_succ]
          rfl
        refine take_ (i := 8) (N := some 16) (v := ?_) (a' := ?_) #[true, true, true, true, true, true, true, true, true, false, false, false, false, false, false, false, false, false, false, false, false, false, false, false, false, false, false, false, false, false, false, false, false, false, false, false, false, false, false, false] rfl rfl (by kernel_rfl) (fun _ _ _ h_ => h_) (Or.inl ⟨by rfl, ?_⟩) hHeld ?_ ?_
        rotate_left
        · intro w_ hSw
          (obtain ⟨hz0, hz1, hz2, hz3, hz4⟩ := hSw)
          go_simp
          first | done | with_reducible rfl
        rotate_left
        · simp only [Act.put, List.setIfInBounds_toArray, List.set_cons_zero, List.set_cons_succ]
          rfl
        refine take_ (i := 9) (N := some 17) (v := ?_) (a' := ?_) #[true, true, true, true, true, true, true, true, true, true, false, false, false, false, false, false, false, false, false, false, false, false, false, false, false, false, false, false, false, false, false, false, false, false, false, false, false, false, false, false] rfl rfl (by kernel_rfl) (fun _ _ _ h_ => h_) (Or.inl ⟨by rfl, ?_⟩) hHeld ?_ ?_
        rotate_left
        · intro w_ hSw
          (obtain ⟨hz0, hz1, hz2, hz3, hz4⟩ := hSw)
          go_simp
          first | done | with_reducible rfl
        rotate_left
        · simp only [Act.put, List.setIfInBounds_toArray, List.set_cons_zero, List.set_cons_succ]
          rfl
        refine take_ (i := 10) (N := some 18) (v := ?_) (a' := ?_) #[true, true, true, true, true, true, true, true, true, true, true, false, false, false, false, false, false, false, false, false, false, false, false, false, false, false, false, false, false, false, false, false, false, false, false, false, false, false, false, false] rfl rfl (by kernel_rfl) (fun _ _ _ h_ => h_) (Or.inl ⟨by rfl, ?_⟩) hHeld ?_ ?_
        rotate_left
        · intro w_ hSw
          (obtain ⟨hz0, hz1, hz2, hz3, hz4⟩ := hSw)
          go_simp
          first | done | with_reducible rfl
        rotate_left
        · simp only [Act.put, List.setIfInBounds_toArray, List.set_cons_zero, List.set_cons_succ]
          rfl
        refine take_ (i := 11) (N := some 19) (v := ?_) (a' := ?_) #[true, true, true, true, true, true, true, true, true, true, true, true, false, false, false, false, false, false, false, false, false, false, false, false, false, false, false, false, false, false, false, false, false, false, false, false, false, false, false, false] rfl rfl (by kernel_rfl) (fun _ _ _ h_ => h_) (Or.inl ⟨by rfl, ?_⟩) hHeld ?_ ?_
        rotate_left
        · intro w_ hSw
          (obtain ⟨hz0, hz1, hz2, hz3, hz4⟩ := hSw)
          go_simp
          first | done | with_reducible rfl
        rotate_left
        · simp only [Act.put, List.setIfInBounds_toArray, List.set_cons_zero, List.set_cons_succ]
          rfl
        refine take_ (i := 12) (N := some 20) (v := ?_) (a' := ?_) #[true, true, true, true, true, true, true, true, true, true, true, true, true, false, false, false, false, false, false, false, false, false, false, false, false, false, false, false, false, false, false, false, false, false, false, false, false, false, false, false] rfl rfl (by kernel_rfl) (fun _ _ _ h_ => h_) (Or.inl ⟨by rfl, ?_⟩) hHeld ?_ ?_
        rotate_left
        · intro w_ hSw
          (obtain ⟨hz0, hz1, hz2, hz3, hz4⟩ := hSw)
          go_simp
          first | done | with_reducible rfl
        rotate_left
        · simp only [Act.put, List.setIfInBounds_toArray, List.set_cons_zero, List.set_cons_succ]
          rfl
        refine take_ (i := 13) (N := some 21) (v := ?_) (a' := ?_) #[true, true, true, true, true, true, true, true, true, true, true, true, true, true, false, false, false, false, false, false, false, false, false, false, false, false, false, false, false, false, false, false, false, false, false, false, false, false, false, false] rfl rfl (by kernel_rfl) (fun _ _ _ h_ => h_) (Or.inl ⟨by rfl, ?_⟩) hHeld ?_ ?_
        rotate_left
        · intro w_ hSw
          (obtain ⟨hz0, hz1, hz2, hz3, hz4⟩ := hSw)
          go_simp
          first | done | with_reducible rfl
        rotate_left
        · simp only [Act.put, List.setIfInBounds_toArray, List.set_cons_zero, List.set_cons_succ]
          rfl
        refine take_ (i := 14) (N := some 22) (v := ?_) (a' := ?_) #[true, true, true, true, true, true, true, true, true, true, true, true, true, true, true, false, false, false, false, false, false, false, false, false, false, false, false, false, false, false, false, false, false, false, false, false, false, false, false, false] rfl rfl (by kernel_rfl) (fun _ _ _ h_ => h_) (Or.inl ⟨by rfl, ?_⟩) hHeld ?_ ?_
        rotate_left
        · intro w_ hSw
          (obtain ⟨hz0, hz1, hz2, hz3, hz4⟩ := hSw)
          go_simp
          first | done | with_reducible rfl
        rotate_left
        · simp only [Act.put, List.setIfInBounds_toArray, List.set_cons_zero, List.set_cons_succ]
          rfl
        refine take_ (i := 15) (N := some 23) (v := ?_) (a' := ?_) #[true, true, true, true, true, true, true, true, true, true, true, true, true, true, true, true, false, false, false, false, false, false, false, false, false, false, false, false, false, false, false, false, false, false, false, false, false, false, false, false] rfl rfl (by kernel_rfl) (fun _ _ _ h_ => h_) (Or.inl ⟨by rfl, ?_⟩) hHeld ?_ ?_
        rotate_left
        · intro w_ hSw
          (obtain ⟨hz0, hz1, hz2, hz3, hz4⟩ := hSw)
          go_simp
          first | done | with_reducible rfl
        rotate_left
        · simp only [Act.put, List.setIfInBounds_toArray, List.set_cons_zero, List.set_cons_succ]
          rfl
        refine take_ (i := 16) (N := some 24) (v := ?_) (a' := ?_) #[true, true, true, true, true, true, true, true, true, true, true, true, true, true, true, true, true, false, false, false, false, false, false, false, false, false, false, false, false, false, false, false, false, false, false, false, false, false, false, false] rfl rfl (by kernel_rfl) (fun _ _ _ h_ => h_) (Or.inl ⟨by rfl, ?_⟩) hHeld ?_ ?_
        rotate_left
        · intro w_ hSw
          (obtain ⟨hz0, hz1, hz2, hz3, hz4⟩ := hSw)
          go_simp
          first | done | with_reducible rfl
        rotate_left
        · simp only [Act.put, List.setIfInBounds_toArray, List.set_cons_zero, List.set_cons_succ]
          rfl
        refine take_ (i := 17) (N := some 25) (v := ?_) (a' := ?_) #[true, true, true, true, true, true, true, true, true, true, true, true, true, true, true, true, true, true, false, false, false, false, false, false, false, false, false, false, false, false, false, false, false, false, false, false, false, false, false, false] rfl rfl (by kernel_rfl) (fun _ _ _ h_ => h_) (Or.inl ⟨by rfl, ?_⟩) hHeld ?_ ?_
        rotate_left
        · intro w_ hSw
          (obtain ⟨hz0, hz1, hz2, hz3, hz4⟩ := hSw)
          go_simp
          first | done | with_reducible rfl
        rotate_left
        · simp only [Act.put, List.setIfInBounds_toArray, List.set_cons_zero, List.set_cons_succ]
          rfl
        refine take_ (i := 18) (N := some 26) (v := ?_) (a' := ?_) #[true, true, true, true, true, true, true, true, true, true, true, true, true, true, true, true, true, true, true, false, false, false, false, false, false, false, false, false, false, false, false, false, false, false, false, false, false, false, false, false] rfl rfl (by kernel_rfl) (fun _ _ _ h_ => h_) (Or.inl ⟨by rfl, ?_⟩) hHeld ?_ ?_
        rotate_left
        · intro w_ hSw
          (obtain ⟨hz0, hz1, hz2, hz3, hz4⟩ := hSw)
          go_simp
          first | done | with_reducible rfl
        rotate_left
        · simp only [Act.put, List.setIfInBounds_toArray, List.set_cons_zero, List.set_cons_succ]
          rfl
        refine take_ (i := 19) (N := some 27) (v := ?_) (a' := ?_) #[true, true, true, true, true, true, true, true, true, true, true, true, true, true, true, true, true, true, true, true, false, false, false, false, false, false, false, false, false, false, false, false, false, false, false, false, false, false, false, false] rfl rfl (by kernel_rfl) (fun _ _ _ h_ => h_) (Or.inl ⟨by rfl, ?_⟩) hHeld ?_ ?_
        rotate_left
        · intro w_ hSw
          (obtain ⟨hz0, hz1, hz2, hz3, hz4⟩ := hSw)
          go_simp
          first | done | with_reducible rfl
        rotate_left
        · simp only [Act.put, List.setIfInBounds_toArray, List.set_cons_zero, List.set_cons_succ]
          rfl
        refine take_ (i := 20) (N := some 28) (v := ?_) (a' := ?_) #[true, true, true, true, true, true, true, true, true, true, true, true, true, true, true, true, true, true, true, true, true, false, false, false, false, false, false, false, false, false, false, false, false, false, false, false, false, false, false, false] rfl rfl (by kernel_rfl) (fun _ _ _ h_ => h_) (Or.inl ⟨by rfl, ?_⟩) hHeld ?_ ?_
        rotate_left
        · intro w_ hSw
          (obtain ⟨hz0, hz1, hz2, hz3, hz4⟩ := hSw)
          go_simp
          first | done | with_reducible rfl
        rotate_left
        · simp only [Act.put, List.setIfInBounds_toArray, List.set_cons_zero, List.set_cons_succ]
          rfl
        refine take_ (i := 21) (N := some 29) (v := ?_) (a' := ?_) #[true, true, true, true, true, true, true, true, true, true, true, true, true, true, true, true, true, true, true, true, true, true, false, false, false, false, false, false, false, false, false, false, false, false, false, false, false, false, false, false] rfl rfl (by kernel_rfl) (fun _ _ _ h_ => h_) (Or.inl ⟨by rfl, ?_⟩) hHeld ?_ ?_
        rotate_left
        · intro w_ hSw
          (obtain ⟨hz0, hz1, hz2, hz3, hz4⟩ := hSw)
          go_simp
          first | done | with_reducible rfl
        rotate_left
        · simp only [Act.put, List.setIfInBounds_toArray, List.set_cons_zero, List.set_cons_succ]
          rfl
        refine take_ (i := 22) (N := some 30) (v := ?_) (a' := ?_) #[true, true, true, true, true, true, true, true, true, true, true, true, true, true, true, true, true, true, true, true, true, true, true, false, false, false, false, false, false, false, false, false, false, false, false, false, false, false, false, false] rfl rfl (by kernel_rfl) (fun _ _ _ h_ => h_) (Or.inl ⟨by rfl, ?_⟩) hHeld ?_ ?_
        rotate_left
        · intro w_ hSw
          (obtain ⟨hz0, hz1, hz2, hz3, hz4⟩ := hSw)
          go_simp
          first | done | with_reducible rfl
        rotate_left
        · simp only [Act.put, List.setIfInBounds_toArray, List.set_cons_zero, List.set_cons_succ]
          rfl
        refine take_ (i := 23) (N := some 31) (v := ?_) (a' := ?_) #[true, true, true, true, true, true, true, true, true, true, true, true, true, true, true, true, true, true, true, true, true, true, true, true, false, false, false, false, false, false, false, false, false, false, false, false, false, false, false, false] rfl rfl (by kernel_rfl) (fun _ _ _ h_ => h_) (Or.inl ⟨by rfl, ?_⟩) hHeld ?_ ?_
        rotate_left
        · intro w_ hSw
          (obtain ⟨hz0, hz1, hz2, hz3, hz4⟩ := hSw)
          go_simp
          first | done | with_reducible rfl
        rotate_left
        · simp only [Act.put, List.setIfInBounds_toArray, List.set_cons_zero, List.set_cons_succ]
          rfl
        refine take_ (i := 24) (N := some 32) (v := ?_) (a' := ?_) #[true, true, true, true, true, true, true, true, true, true, true, true, true, true, true, true, true, true, true, true, true, true, true, true, true, false, false, false, false, false, false, false, false, false, false, false, false, false, false, false] rfl rfl (by kernel_rfl) (fun _ _ _ h_ => h_) (Or.inl ⟨by rfl, ?_⟩) hHeld ?_ ?_
        rotate_left
        · intro w_ hSw
          (obtain ⟨hz0, hz1, hz2, hz3, hz4⟩ := hSw)
          go_simp
          first | done | with_reducible rfl
        rotate_left
        · simp only [Act.put, List.setIfInBounds_toArray, List.set_cons_zero, List.set_cons_succ]
          rfl
        refine take_ (i := 25) (N := some 33) (v := ?_) (a' := ?_) #[true, true, true, true, true, true, true, true, true, true, true, true, true, true, true, true, true, true, true, true, true, true, true, true, true, true, false, false, false, false, false, false, false, false, false, false, false, false, false, false] rfl rfl (by kernel_rfl) (fun _ _ _ h_ => h_) (Or.inl ⟨by rfl, ?_⟩) hHeld ?_ ?_
        rotate_left
        · intro w_ hSw
          (obtain ⟨hz0, hz1, hz2, hz3, hz4⟩ := hSw)
          go_simp
          first | done | with_reducible rfl
        rotate_left
        · simp only [Act.put, List.setIfInBounds_toArray, List.set_cons_zero, List.set_cons_succ]
          rfl
        refine take_ (i := 26) (N := some 34) (v := ?_) (a' := ?_) #[true, true, true, true, true, true, true, true, true, true, true, true, true, true, true, true, true, true, true, true, true, true, true, true, true, true, true, false, false, false, false, false, false, false, false, false, false, false, false, false] rfl rfl (by kernel_rfl) (fun _ _ _ h_ => h_) (Or.inl ⟨by rfl, ?_⟩) hHeld ?_ ?_
        rotate_left
        · intro w_ hSw
          (obtain ⟨hz0, hz1, hz2, hz3, hz4⟩ := hSw)
          go_simp
          first | done | with_reducible rfl
        rotate_left
        · simp only [Act.put, List.setIfInBounds_toArray, List.set_cons_zero, List.set_cons_succ]
          rfl
        refine take_ (i := 27) (N := some 35) (v := ?_) (a' := ?_) #[true, true, true, true, true, true, true, true, true, true, true, true, true, true, true, true, true, true, true, true, true, true, true, true, true, true, true, true, false, false, false, false, false, false, false, false, false, false, false, false] rfl rfl (by kernel_rfl) (fun _ _ _ h_ => h_) (Or.inl ⟨by rfl, ?_⟩) hHeld ?_ ?_
        rotate_left
        · intro w_ hSw
          (obtain ⟨hz0, hz1, hz2, hz3, hz4⟩ := hSw)
          go_simp
          first | done | with_reducible rfl
        rotate_left
        · simp only [Act.put, List.setIfInBounds_toArray, List.set_cons_zero, List.set_cons_succ]
          rfl
        refine take_ (i := 28) (N := some 36) (v := ?_) (a' := ?_) #[true, true, true, true, true, true, true, true, true, true, true, true, true, true, true, true, true, true, true, true, true, true, true, true, true, true, true, true, true, false, false, false, false, false, false, false, false, false, false, false] rfl rfl (by kernel_rfl) (fun _ _ _ h_ => h_) (Or.inl ⟨by rfl, ?_⟩) hHeld ?_ ?_
        rotate_left
        · intro w_ hSw
          (obtain ⟨hz0, hz1, hz2, hz3, hz4⟩ := hSw)
          go_simp
          first | done | with_reducible rfl
        rotate_left
        · simp only [Act.put, List.setIfInBounds_toArray, List.set_cons_zero, List.set_cons_succ]
          rfl
        refine take_ (i := 29) (N := some 37) (v := ?_) (a' := ?_) #[true, true, true, true, true, true, true, true, true, true, true, true, true, true, true, true, true, true, true, true, true, true, true, true, true, true, true, true, true, true, false, false, false, false, false, false, false, false, false, false] rfl rfl (by kernel_rfl) (fun _ _ _ h_ => h_) (Or.inl ⟨by rfl, ?_⟩) hHeld ?_ ?_
        rotate_left
        · intro w_ hSw
          (obtain ⟨hz0, hz1, hz2, hz3, hz4⟩ := hSw)
          go_simp
          first | done | with_reducible rfl
        rotate_left
        · simp only [Act.put, List.setIfInBounds_toArray, List.set_cons_zero, List.set_cons_succ]
          rfl
        refine take_ (i := 30) (N := some 38) (v := undef) (a' := ?_) #[true, true, true, true, true, true, true, true, true, true, true, true, true, true, true, true, true, true, true, true, true, true, true, true, true, true, true, true, true, true, true, false, false, false, false, false, false, false, false, false] rfl rfl (by kernel_rfl) (fun _ _ _ h_ => h_) (Or.inr ⟨by rfl, rfl⟩) hHeld ?_ ?_
        rotate_left
        · simp only [Act.put, List.setIfInBounds_toArray, List.set_cons_zero, List.set_cons_succ]
          rfl
        refine take_ (i := 31) (N := some 39) (v := undef) (a' := ?_) #[true, true, true, true, true, true, true, true, true, true, true, true, true, true, true, true, true, true, true, true, true, true, true, true, true, true, true, true, true, true, true, true, false, false, false, false, false, false, false, false] rfl rfl (by kernel_rfl) (fun _ _ _ h_ => h_) (Or.inr ⟨by rfl, rfl⟩) hHeld ?_ ?_
        rotate_left
        · simp only [Act.put, List.setIfInBounds_toArray, List.set_cons_zero, List.set_cons_succ]
          rfl
        refine take_ (i := 32) (N := some 40) (v := undef) (a' := ?_) #[true, true, true, true, true, true, true, true, true, true, true, true, true, true, true, true, true, true, true, true, true, true, true, true, true, true, true, true, true, true, true, true, true, false, false, false, false, false, false, false] rfl rfl (by kernel_rfl) (fun _ _ _ h_ => h_) (Or.inr ⟨by rfl, rfl⟩) hHeld ?_ ?_
        rotate_left
        · simp only [Act.put, List.setIfInBounds_toArray, List.set_cons_zero, List.set_cons_succ]
          rfl
        refine take_ (i := 33) (N := some 41) (v := undef) (a' := ?_) #[true, true, true, true, true, true, true, true, true, true, true, true, true, true, true, true, true, true, true, true, true, true, true, true, true, true, true, true, true, true, true, true, true, true, false, false, false, false, false, false] rfl rfl (by kernel_rfl) (fun _ _ _ h_ => h_) (Or.inr ⟨by rfl, rfl⟩) hHeld ?_ ?_
        rotate_left
        · simp only [Act.put, List.setIfInBounds_toArray, List.set_cons_zero, List.set_cons_succ]
          rfl
        refine take_ (i := 34) (N := some 42) (v := undef) (a' := ?_) #[true, true, true, true, true, true, true, true, true, true, true, true, true, true, true, true, true, true, true, true, true, true, true, true, true, true, true, true, true, true, true, true, true, true, true, false, false, false, false, false] rfl rfl (by kernel_rfl) (fun _ _ _ h_ => h_) (Or.inr ⟨by rfl, rfl⟩) hHeld ?_ ?_
        rotate_left
        · simp only [Act.put, List.setIfInBounds_toArray, List.set_cons_zero, List.set_cons_succ]
          rfl
        refine take_ (i := 35) (N := some 43) (v := undef) (a' := ?_) #[true, true, true, true, true, true, true, true, true, true, true, true, true, true, true, true, true, true, true, true, true, true, true, true, true, true, true, true, true, true, true, true, true, true, true, true, false, false, false, false] rfl rfl (by kernel_rfl) (fun _ _ _ h_ => h_) (Or.inr ⟨by rfl, rfl⟩) hHeld ?_ ?_
        rotate_left
        · simp only [Act.put, List.setIfInBounds_toArray, List.set_cons_zero, List.set_cons_succ]
          rfl
        refine take_ (i := 36) (N := some 44) (v := undef) (a' := ?_) #[true, true, true, true, true, true, true, true, true, true, true, true, true, true, true, true, true, true, true, true, true, true, true, true, true, true, true, true, true, true, true, true, true, true, true, true, true, false, false, false] rfl rfl (by kernel_rfl) (fun _ _ _ h_ => h_) (Or.inr ⟨by rfl, rfl⟩) hHeld ?_ ?_
        rotate_left
        · simp only [Act.put, List.setIfInBounds_toArray, List.set_cons_zero, List.set_cons_succ]
          rfl
        refine take_ (i := 37) (N := some 45) (v := ?_) (a' := ?_) #[true, true, true, true, true, true, true, true, true, true, true, true, true, true, true, true, true, true, true, true, true, true, true, true, true, true, true, true, true, true, true, true, true, true, true, true, true, true, false, false] rfl rfl (by kernel_rfl) (fun _ _ _ h_ => h_) (Or.inl ⟨by rfl, ?_⟩) hHeld ?_ ?_
        rotate_left
        · intro w_ hSw
          (obtain ⟨hz0, hz1, hz2, hz3, hz4⟩ := hSw)
          go_simp
          first | done | with_reducible rfl
        rotate_left
        · simp only [Act.put, List.setIfInBounds_toArray, List.set_cons_zero, List.set_cons_succ]
          rfl
        refine take_ (i := 38) (N := some 46) (v := ?_) (a' := ?_) #[true, true, true, true, true, true, true, true, true, true, true, true, true, true, true, true, true, true, true, true, true, true, true, true, true, true, true, true, true, true, true, true, true, true, true, true, true, true, true, false] rfl rfl (by kernel_rfl) (fun _ _ _ h_ => h_) (Or.inl ⟨by rfl, ?_⟩) hHeld ?_ ?_
        rotate_left
        · intro w_ hSw
          (obtain ⟨hz0, hz1, hz2, hz3, hz4⟩ := hSw)
          go_simp
          first | done | with_reducible rfl
        rotate_left
        · simp only [Act.put, List.setIfInBounds_toArray, List.set_cons_zero, List.set_cons_succ]
          rfl
        refine take_ (i := 39) (N := some 47) (v := ?_) (a' := ?_) #[true, true, true, true, true, true, true, true, true, true, true, true, true, true, true, true, true, true, true, true, true, true, true, true, true, true, true, true, true, true, true, true, true, true, true, true, true, true, true, true] rfl rfl (by kernel_rfl) (fun _ _ _ h_ => h_) (Or.inl ⟨by rfl, ?_⟩) hHeld ?_ ?_
        rotate_left
        · intro w_ hSw
          (obtain ⟨hz0, hz1, hz2, hz3, hz4⟩ := hSw)
          go_simp
          first | done | with_reducible rfl
        rotate_left
        · simp only [Act.put, List.setIfInBounds_toArray, List.set_cons_zero, List.set_cons_succ]
          rfl
        refine done_ (by kernel_rfl) ?_
        have hq0 : (w.alloc (.cells #[.slice A1 xs.length c1, .int .i64 y] 103)).drew.cell? ⟨w.heap.size, 0, none⟩ = some (.slice A1 xs.length c1) := ZA.out
        have H7 := Aside0.mk (show Below w.heap.size w (w.alloc (.cells #[.slice A1 xs.length c1, .int .i64 y] 103)).drew from Below.grown BL.out (cR.drew1 _) (below_size BL.out) (fun k e => by cases e))
        have HR7 := Aside0.mk (show cS.RD ((w.alloc (.cells #[.slice A1 xs.length c1, .int .i64 y] 103)).drew) (.slice A1 xs.length c1) xs from HR.out.below H7.out)
        generalize World.drew _ = w5 at hq0 H7 HR7 ⊢
        clear z0 z1 z2 z3 z4 d1t cyt p1 p2 p3 HP1 d2t
        go_wp2
        go_ret
        exact ⟨_, rfl, by rw [HM.out, if_neg (by rw [HP.out]; simp)]; exact HR7.out, H7.out⟩

set_option maxRecDepth 100000 in
theorem cS.one_R (w : World) (x : Int) {b base : Nat} (hb : b = w.heap.size) (hbase : base ≤ b) : Kd.R (Kd.int .i64) 3 (w.alloc (.cells #[.int .i64 x] 3)) base (fun k => k = b) (.slice (some ⟨b, 0, none⟩) 1 1) [x] := by
  subst hb
  refine Kd.R_of_own ⟨by simp [encs], Or.inr ⟨w.heap.size, 1, #[.int .i64 x], rfl, hbase, heap_alloc_new w _, Nat.le_refl _, by decide, rfl, rfl⟩⟩ (fun k hk => ?_)
  simp only [Value.ownBlock, Option.some.injEq] at hk
  exact hk.symm
set_option maxRecDepth 100000 in
theorem cS.catR {w : World} {v0 v1 v2 : Value} {x0 x1 x2 : List Int} (h0 : cS.RD w v0 x0) (h1 : cS.RD w v1 x1) (h2 : cS.RD w v2 x2) {b : Nat} (hbb : b = w.heap.size) (hs : x0.length + x1.length + x2.length < 1000000) : Calls Try.prog 59 #[.slice (some ⟨b, 0, none⟩) 3 3] (w.alloc (.cells #[v0, v1, v2] 23)) fun e w' => ∃ v, e = .returned v ∧ Kd.R (Kd.int .i64) 3 w' w.heap.size (fun _ => True) v ([x0, x1, x2].flatten) ∧ Below w.heap.size w w' := by
  refine (slices_Concat_int_int.calls (some ⟨b, 0, none⟩) 3 [x0, x1, x2] ([x0, x1, x2].flatten) _ (cS.row3 h0 h1 h2 hbb) (Nat.le_refl _) ?_).mono ?_
  · unfold slices_Concat_int_int.f
    rw [if_pos (by refine ⟨by simp, ?_⟩; simp; omega)]
  · rintro e w6 ⟨v0, rfl, hr6, hb6⟩
    have := below_size (below_alloc (Below.refl w.heap.size w) (.cells #[v0, v1, v2] 23))
    exact ⟨v0, rfl, Kd.R_lower hr6 (by simp), Below.trans (below_alloc (Below.refl _ _) _) (Below.mono hb6 (by simp))⟩
structure cS.Sv (w0 : World) (g : Nat) (A0 : Option Addr) (n0 c0 : Nat) (v : Value) (st : List S103) (w : World) : Prop where
  below : Below w0.heap.size w0 w
  g1 : w0.heap.size ≤ g
  bg : w.heap[g]? = some (.cells #[.slice A0 n0 c0] 22 (0, 0))
  rs : Kd.R k103 103 w w0.heap.size (fun k => k ≠ g) v st
set_option maxRecDepth 100000 in
theorem cS.Sv.kept {w0 : World} {g : Nat} {A0 : Option Addr} {n0 c0 : Nat} {v : Value} {st : List S103} {w w1 : World} (h : cS.Sv w0 g A0 n0 c0 v st w) (hb : Below w.heap.size w w1) : cS.Sv w0 g A0 n0 c0 v st w1 :=
  ⟨below_step h.below hb, h.g1, blk_below h.bg hb, Kd.R_below h.rs hb⟩
set_option maxRecDepth 100000 in
theorem cS.info : (Try.prog.info? 103).map (fun i => (i.zero, i.size, i.bytes)) = some (some (.agg #[.slice none 0 0, .int .i64 0]), 2, 32) := by kernel_rfl
set_option maxRecDepth 100000 in
theorem cS.mark_len (ops : List S94) (s : S103) (x : Int) (r : Bool) : (cS.mark ops s x r).length ≤ s.f0.length + 2 := by
  unfold cS.mark
  split
  · simp
  · omega
set_option maxRecDepth 100000 in
theorem cS.drew2 (w : World) : Below w.heap.size w w.drew := ⟨rfl, rfl, rfl, Nat.le_refl _, fun _ _ => rfl⟩

set_option maxHeartbeats 8000000 in
set_option maxRecDepth 100000 in
theorem climb_Show.calls (k : Nat) (A0 : Option Addr) (c0 : Nat) (l0 : List (S94)) (A1 : Option Addr) (c1 : Nat) (l1 : List Int) (r1 : List Int) (r2 : Int) (w : World) (hr0 : Kd.C k94 w A0 l0.length l0) (hc0 : l0.length ≤ c0) (hr1 : Kd.C (Kd.int .i64) w A1 l1.length l1) (hc1 : l1.length ≤ c1) (h : climb_Show.f k l0 l1 = some (r1, r2)) :
    Calls Try.prog 21 #[.slice A0 l0.length c0, .slice A1 l1.length c1] w fun e w' => ∃ v0_ : Value, e = .returned (.tuple #[v0_, .int .i64 r2]) ∧ Kd.R (Kd.int .i64) 3 w' w.heap.size (fun _ => True) v0_ r1 ∧ Below w.heap.size w w' := by
  have hu94 := Try.underlying94
  have hu103 := Try.underlying103
  have HR0 := Aside0.mk hr0
  have HC0 := Aside0.mk hc0
  have HR1 := Aside0.mk hr1
  have HC1 := Aside0.mk hc1
  unfold climb_Show.f at h
  clear hr0 hc0 hr1 hc1
  cases hw : climb_wrong.f k l0 l1 false with
  | none => rw [hw] at h; cases h
  | some e =>
  rw [hw] at h
  simp only [Option.bind_some] at h
  have HW := Aside0.mk hw
  clear hw
  have BB := Aside0.mk (below_alloc (Below.refl w.heap.size w) (.cells #[.slice A0 l0.length c0] 22))
  have hgc : (w.alloc (.cells #[.slice A0 l0.length c0] 22)).cell? ⟨w.heap.size, 0, none⟩ = some (.slice A0 l0.length c0) := (blk_cell (heap_alloc_new w _) 0).trans rfl
  by_cases ce : e = 0
  · rw [if_pos ce] at h
    by_cases cl : l1.length < 1000
    · rw [if_pos cl] at h
      subst ce
      have cez : ((0 : Int) != 0) = false := rfl
      have H0 := Aside0.mk h
      have CL := Aside0.mk cl
      clear h cl
      have hlt1 : l1.length ≤ 9223372036854775807 := by have := CL.out; omega
      go_enter Try.func21, Try.ntmps21
      go_wp2_with (go_at_call 51; refine (climb_wrong.calls k A0 c0 l0 A1 c1 l1 false 0 _ (Kd.C_below HR0.out BB.out) HC0.out (Kd.C_below HR1.out BB.out) HC1.out HW.out).mono ?_; rintro e w1 ⟨rfl, hb⟩; have HB1 := Aside0.mk hb; clear hb)
      have HS1 := Aside0.mk (show cS.Sv w w.heap.size A0 l0.length c0 (.slice none 0 0) [] w1 from ⟨below_step BB.out HB1.out, Nat.le_refl _, blk_below (heap_alloc_new w _) HB1.out, Kd.R_nil _ _ _ _ _⟩)
      clear hgc
      generalize hg : w.heap.size = g at HS1 ⊢
      have HGG := Aside0.mk hg
      clear hg
      go_loopg [7, 22] k (fun gg s7 s22 wr => ∃ (i : Nat) (st : List S103), s22 = .int .i64 i ∧ i ≤ l1.length ∧ Aside0 (cS.Sv w g A0 l0.length c0 s7 st wr) ∧ Aside0 (cS.show l0 l1 gg i st = some (r1, r2)))
      case atStart => exact ⟨0, [], rfl, Nat.zero_le _, HS1, H0⟩
      case round =>
        obtain ⟨i, st, rfl, hi, HS, HL⟩ := hrel
        cases gk with
        | zero => exact absurd HL.out (by rw [cS.show]; exact fun e => by cases e)
        | succ q =>
        have hL := HL.out
        rw [cS.show] at hL
        clear HL
        have HBE := Aside0.mk HS.out.below
        obtain ⟨A, c, rfl⟩ := Kd.R_slice HS.out.rs
        have hq1 := (blk_cell HS.out.bg 0).trans rfl
        by_cases ci : i < l1.length
        · rw [if_pos ci] at hL
          have ciz : ((i : Int) < (l1.length : Int)) = True := eq_true (by omega)
          have ci0 : (0 ≤ (i : Int)) = True := eq_true (by omega)
          obtain ⟨ad1, eA, hcx⟩ := Kd.at_int HR1.out (i : Int) (by omega) (by omega)
          subst eA
          replace hcx := pw_cell_below HBE.out hcx
          rw [Int.toNat_natCast] at hcx
          generalize hx : rd l1 (i : Nat) = x at hL hcx
          have ei : wrap64 ((i : Int) + 1) = (i : Int) + 1 := by unfold wrap64; omega
          by_cases x1 : x ≥ 100
          · rw [if_pos x1] at hL
            have x1t : (100 ≤ x) = True := eq_true x1
            by_cases cs : st.length < 1000
            · rw [if_pos cs] at hL
              have HL := Aside0.mk hL
              have CS := Aside0.mk cs
              clear hL x1 cs hx
              go_wp2_with (first
                | ((with_reducible refine gate_builtin (b := .append) (xs := #[.tmp 28, .tmp 32]) rfl ?_); at_builtin; go_loud (refine Kd.R_append k103 (w0 := w) w.heap.size rfl (.tmp 28) (.tmp 32) 101 103 (.agg #[.slice none 0 0, .int .i64 0]) 32 rfl Try.underlying101 cS.info rfl (by decide) (by omega) (.slice A st.length c) st ⟨[x], -1⟩ _ (fun k => k ≠ g) (fun k => k = wr.heap.size) rfl ?xx ?xm ?xo ?xf (Kd.R_alloc HS.out.rs _) (below_alloc HS.out.below _) ?xb ?xl ?_); go_loud (case xx => (show Value.slice (some ⟨wr.heap.size + 1, 0, none⟩) 1 1 = _; simp)); go_loud (case xm => exact k103_mkM _ _ _ ⟨[x], -1⟩ (cS.one_R wr x rfl (below_size HS.out.below))); go_loud (case xo => (rintro k rfl; exact ⟨by have := blk_lt HS.out.bg; omega, fun e => by have := Kd.R_lt HS.out.rs _ e.symm; omega⟩)); go_loud (case xf => exact fun k hk => (by have := blk_lt HS.out.bg; simp at hk; omega)); go_loud (case xb => (have := below_size HS.out.below; simp; omega)); go_loud (case xl => (have := CS.out; omega)); intro v1 w1' hr1 hb1 hg1 hat1; go_loud (have HSV := Aside0.mk (show cS.Sv w g A0 l0.length c0 v1 (st ++ [⟨[x], -1⟩]) w1' from ⟨hb1, HS.out.g1, blk_grown (blk_alloc HS.out.bg _) hg1 (Kd.R_away HS.out.rs (fun _ hk => hk)), hr1⟩)); clear hr1 hb1 hg1 hat1))
              go_roundg q
              case measure => omega
              case rel => exact ⟨i + 1, _, by go_num, by omega, HSV, HL⟩
            · rw [if_neg cs] at hL; cases hL
          · rw [if_neg x1] at hL
            have x1t : (100 ≤ x) = False := eq_false x1
            by_cases cs : st.length < 2
            · rw [if_pos cs] at hL
              have hL := Option.some.inj hL
              injection hL with h1 h2
              subst h1; subst h2
              have cst : ((st.length : Int) < 2) = True := eq_true (by omega)
              clear cs x1
              go_wp2
              go_ret2
              exact ⟨_, rfl, Kd.R_nil _ _ _ _ _, HBE.out⟩
            · rw [if_neg cs] at hL
              have cst : ((st.length : Int) < 2) = False := eq_false (by omega)
              obtain ⟨n2, hn2⟩ : ∃ n2, (st.length : Int) - 2 = n2 := ⟨_, rfl⟩
              obtain ⟨n1, hn1⟩ : ∃ n1, (st.length : Int) - 1 = n1 := ⟨_, rfl⟩
              rw [hn2, hn1] at hL
              by_cases cg : (0 ≤ x ∧ x < (l0.length : Int)) ∧ ((rd_T103 st n2).f1 < (l0.length : Int) ∧ (rd_T103 st n2).f0.length < 1000) ∧ ((rd_T103 st n1).f1 < (l0.length : Int) ∧ (rd_T103 st n1).f0.length < 1000) ∧ st.length < 1000
              · rw [if_pos cg] at hL
                have HL := Aside0.mk hL
                obtain ⟨hxx, la, lb, ls⟩ := cg
                have hS5r := Kd.R_reads' HS.out.rs
                obtain ⟨ad, A2, c2, rfl, z0, z1, lc2, CA⟩ := at_T103 hS5r.2.2 n2 (by omega) (by omega)
                obtain ⟨ad', A3, c3, ee, z2, z3, lc3, CB⟩ := at_T103 hS5r.2.2 n1 (by omega) (by omega)
                obtain rfl := Option.some.inj ee
                have hcc := hS5r.2.1
                have e2 : wrap64 ((st.length : Int) - 2) = n2 := by unfold wrap64; omega
                have e1 : wrap64 ((st.length : Int) - 1) = n1 := by unfold wrap64; omega
                have e2w : IntKind.i64.wrap ((st.length : Int) - 2) = n2 := by rw [i64_w]; exact e2
                have e1w : IntKind.i64.wrap ((st.length : Int) - 1) = n1 := by rw [i64_w]; exact e1
                have q2 : (0 ≤ n2) = True := eq_true (by omega)
                have q2b : (n2 < (st.length : Int)) = True := eq_true (by omega)
                have q1 : (0 ≤ n1) = True := eq_true (by omega)
                have q1b : (n1 < (st.length : Int)) = True := eq_true (by omega)
                have NN := Aside0.mk (And.intro hn2 hn1)
                have CST := Aside0.mk cs
                generalize hea : rd_T103 st n2 = sa at HL la z0 z1 lc2 CA
                generalize heb : rd_T103 st n1 = sb at HL lb z2 z3 lc3 CB
                obtain ⟨ax, af⟩ := sa
                obtain ⟨bx, bf⟩ := sb
                dsimp only at la lb z0 z1 lc2 CA z2 z3 lc3 CB
                generalize hgma : cS.mark l0 ⟨ax, af⟩ x false = ma at HL
                generalize hgmb : cS.mark l0 ⟨bx, bf⟩ x true = mb at HL
                have hma : ma.length ≤ 1002 := by rw [← hgma]; have := cS.mark_len l0 ⟨ax, af⟩ x false; dsimp only at this; omega
                have hmb : mb.length ≤ 1002 := by rw [← hgmb]; have := cS.mark_len l0 ⟨bx, bf⟩ x true; dsimp only at this; omega
                have LM := Aside0.mk (And.intro hma hmb)
                have HD := Aside0.mk (cS.drew2 wr)
                have MA := Aside0.mk (fun (w' : World) (hb : Below wr.heap.size wr w') => (show Calls Try.prog 58 #[.agg #[.slice A2 ax.length c2, .int .i64 af], .int .i64 x, .bool false, .pointer (some ⟨g, 0, none⟩)] w' (fun e w' => ∃ v, e = .returned v ∧ cS.RD w' v ma ∧ _) from hgma ▸ cS.mark_calls (s := ⟨ax, af⟩) (x := x) (right := false) (c1 := c2) (pw_cell_below hb hq1) (Kd.C_below HR0.out (below_step HBE.out hb)) lc2 (Kd.C_below CA hb) hxx.1 hxx.2 la.1 (Nat.lt_of_lt_of_le la.2 (by omega))))
                have MB := Aside0.mk (fun (w' : World) (hb : Below wr.heap.size wr w') => (show Calls Try.prog 58 #[.agg #[.slice A3 bx.length c3, .int .i64 bf], .int .i64 x, .bool true, .pointer (some ⟨g, 0, none⟩)] w' (fun e w' => ∃ v, e = .returned v ∧ cS.RD w' v mb ∧ _) from hgmb ▸ cS.mark_calls (s := ⟨bx, bf⟩) (x := x) (right := true) (c1 := c3) (pw_cell_below hb hq1) (Kd.C_below HR0.out (below_step HBE.out hb)) lc3 (Kd.C_below CB hb) hxx.1 hxx.2 lb.1 (Nat.lt_of_lt_of_le lb.2 (by omega))))
                have LS := Aside0.mk ls
                clear hL hS5r ee hea heb hgma hgmb hma hmb hn2 hn1 cs hxx la lb ls lc2 lc3 CA CB x1 hx
                have hS5 : ∀ w', Below wr.heap.size wr w' → (fun w' => Below wr.heap.size wr w' ∧ w'.cell? (ad.add (n2.toNat * 2)) = some (.slice A2 ax.length c2) ∧ w'.cell? ⟨(ad.add (n2.toNat * 2)).block, (ad.add (n2.toNat * 2)).off + 1, none⟩ = some (.int .i64 af) ∧ w'.cell? (ad.add (n1.toNat * 2)) = some (.slice A3 bx.length c3) ∧ w'.cell? ⟨(ad.add (n1.toNat * 2)).block, (ad.add (n1.toNat * 2)).off + 1, none⟩ = some (.int .i64 bf)) w' := fun w' hb => ⟨hb, pw_cell_below hb z0, pw_cell_below hb z1, pw_cell_below hb z2, pw_cell_below hb z3⟩
                go_wp2
                refine start_ (n := 21) (S := (fun w' => Below wr.heap.size wr w' ∧ w'.cell? (ad.add (n2.toNat * 2)) = some (.slice A2 ax.length c2) ∧ w'.cell? ⟨(ad.add (n2.toNat * 2)).block, (ad.add (n2.toNat * 2)).off + 1, none⟩ = some (.int .i64 af) ∧ w'.cell? (ad.add (n1.toNat * 2)) = some (.slice A3 bx.length c3) ∧ w'.cell? ⟨(ad.add (n1.toNat * 2)).block, (ad.add (n1.toNat * 2)).off + 1, none⟩ = some (.int .i64 bf))) (ds := []) #[false, false, false, false, false, false, false, false, false, false, false, false, false, false, false, false, false, false, false, false, false] (by kernel_rfl) rfl rfl (hS5 _ (cS.drew2 wr)) (fun hHeld => ?_)
                refine take_ (i := 0) (N := some 38) (v := ?_) (a' := ?_) #[true, false, false, false, false, false, false, false, false, false, false, false, false, false, false, false, false, false, false, false, false] rfl rfl (by kernel_rfl) (fun _ _ _ h_ => h_) (Or.inl ⟨by rfl, ?_⟩) hHeld ?_ ?_
                rotate_left
                · intro w_ hSw
                  (obtain ⟨-, hz0, hz1, hz2, hz3⟩ := hSw)
                  go_simp
                  first | done | with_reducible rfl
                rotate_left
                · simp only [Act.put, List.setIfInBounds_toArray, List.set_cons_zero, List.set_cons_succ]
                  rfl
                refine take_ (i := 1) (N := some 39) (v := ?_) (a' := ?_) #[true, true, false, false, false, false, false, false, false, false, false, false, false, false, false, false, false, false, false, false, false] rfl rfl (by kernel_rfl) (fun _ _ _ h_ => h_) (Or.inl ⟨by rfl, ?_⟩) hHeld ?_ ?_
                rotate_left
                · intro w_ hSw
                  (obtain ⟨-, hz0, hz1, hz2, hz3⟩ := hSw)
                  go_simp
                  first | done | with_reducible rfl
                rotate_left
                · simp only [Act.put, List.setIfInBounds_toArray, List.set_cons_zero, List.set_cons_succ]
                  rfl
                refine take_ (i := 2) (N := some 40) (v := ?_) (a' := ?_) #[true, true, true, false, false, false, false, false, false, false, false, false, false, false, false, false, false, false, false, false, false] rfl rfl (by kernel_rfl) (fun _ _ _ h_ => h_) (Or.inl ⟨by rfl, ?_⟩) hHeld ?_ ?_
                rotate_left
                · intro w_ hSw
                  (obtain ⟨-, hz0, hz1, hz2, hz3⟩ := hSw)
                  go_simp
                  first | done | with_reducible rfl
                rotate_left
                · simp only [Act.put, List.setIfInBounds_toArray, List.set_cons_zero, List.set_cons_succ]
                  rfl
                refine take_ (i := 3) (N := some 41) (v := ?_) (a' := ?_) #[true, true, true, true, false, false, false, false, false, false, false, false, false, false, false, false, false, false, false, false, false] rfl rfl (by kernel_rfl) (fun _ _ _ h_ => h_) (Or.inl ⟨by rfl, ?_⟩) hHeld ?_ ?_
                rotate_left
                · intro w_ hSw
                  (obtain ⟨-, hz0, hz1, hz2, hz3⟩ := hSw)
                  go_simp
                  first | done | with_reducible rfl
                rotate_left
                · simp only [Act.put, List.setIfInBounds_toArray, List.set_cons_zero, List.set_cons_succ]
                  rfl
                refine take_ (i := 4) (N := some 42) (v := ?_) (a' := ?_) #[true, true, true, true, true, false, false, false, false, false, false, false, false, false, false, false, false, false, false, false, false] rfl rfl (by kernel_rfl) (fun _ _ _ h_ => h_) (Or.inl ⟨by rfl, ?_⟩) hHeld ?_ ?_
                rotate_left
                · intro w_ hSw
                  (obtain ⟨-, hz0, hz1, hz2, hz3⟩ := hSw)
                  go_simp
                  first | done | with_reducible rfl
                rotate_left
                · simp only [Act.put, List.setIfInBounds_toArray, List.set_cons_zero, List.set_cons_succ]
                  rfl
                refine take_ (i := 5) (N := some 43) (v := ?_) (a' := ?_) #[true, true, true, true, true, true, false, false, false, false, false, false, false, false, false, false, false, false, false, false, false] rfl rfl (by kernel_rfl) (fun _ _ _ h_ => h_) (Or.inl ⟨by rfl, ?_⟩) hHeld ?_ ?_
                rotate_left
                · intro w_ hSw
                  (obtain ⟨-, hz0, hz1, hz2, hz3⟩ := hSw)
                  go_simp
                  first | done | with_reducible rfl
                rotate_left
                · simp only [Act.put, List.setIfInBounds_toArray, List.set_cons_zero, List.set_cons_succ]
                  rfl
                refine take_ (i := 6) (N := some 44) (v := ?_) (a' := ?_) #[true, true, true, true, true, true, true, false, false, false, false, false, false, false, false, false, false, false, false, false, false] rfl rfl (by kernel_rfl) (fun _ _ _ h_ => h_) (Or.inl ⟨by rfl, ?_⟩) hHeld ?_ ?_
                rotate_left
                · intro w_ hSw
                  (obtain ⟨-, hz0, hz1, hz2, hz3⟩ := hSw)
                  go_simp
                  first | done | with_reducible rfl
                rotate_left
                · simp only [Act.put, List.setIfInBounds_toArray, List.set_cons_zero, List.set_cons_succ]
                  rfl
                refine take_ (i := 8) (N := some 46) (v := ?_) (a' := ?_) #[true, true, true, true, true, true, true, false, true, false, false, false, false, false, false, false, false, false, false, false, false] rfl rfl (by kernel_rfl) (fun _ _ _ h_ => h_) (Or.inl ⟨by rfl, ?_⟩) hHeld ?_ ?_
                rotate_left
                · intro w_ hSw
                  (obtain ⟨-, hz0, hz1, hz2, hz3⟩ := hSw)
                  go_simp
                  first | done | with_reducible rfl
                rotate_left
                · simp only [Act.put, List.setIfInBounds_toArray, List.set_cons_zero, List.set_cons_succ]
                  rfl
                refine take_ (i := 10) (N := some 48) (v := ?_) (a' := ?_) #[true, true, true, true, true, true, true, false, true, false, true, false, false, false, false, false, false, false, false, false, false] rfl rfl (by kernel_rfl) (fun _ _ _ h_ => h_) (Or.inl ⟨by rfl, ?_⟩) hHeld ?_ ?_
                rotate_left
                · intro w_ hSw
                  (obtain ⟨-, hz0, hz1, hz2, hz3⟩ := hSw)
                  go_simp
                  first | done | with_reducible rfl
                rotate_left
                · simp only [Act.put, List.setIfInBounds_toArray, List.set_cons_zero, List.set_cons_succ]
                  rfl
                refine take_ (i := 11) (N := some 49) (v := ?_) (a' := ?_) #[true, true, true, true, true, true, true, false, true, false, true, true, false, false, false, false, false, false, false, false, false] rfl rfl (by kernel_rfl) (fun _ _ _ h_ => h_) (Or.inl ⟨by rfl, ?_⟩) hHeld ?_ ?_
                rotate_left
                · intro w_ hSw
                  (obtain ⟨-, hz0, hz1, hz2, hz3⟩ := hSw)
                  go_simp
                  first | done | with_reducible rfl
                rotate_left
                · simp only [Act.put, List.setIfInBounds_toArray, List.set_cons_zero, List.set_cons_succ]
                  rfl
                refine take_ (i := 12) (N := some 50) (v := ?_) (a' := ?_) #[true, true, true, true, true, true, true, false, true, false, true, true, true, false, false, false, false, false, false, false, false] rfl rfl (by kernel_rfl) (fun _ _ _ h_ => h_) (Or.inl ⟨by rfl, ?_⟩) hHeld ?_ ?_
                rotate_left
                · intro w_ hSw
                  (obtain ⟨-, hz0, hz1, hz2, hz3⟩ := hSw)
                  go_simp
                  first | done | with_reducible rfl
                rotate_left
                · simp only [Act.put, List.setIfInBounds_toArray, List.set_cons_zero, List.set_cons_succ]
                  rfl
                refine take_ (i := 13) (N := some 51) (v := ?_) (a' := ?_) #[true, true, true, true, true, true, true, false, true, false, true, true, true, true, false, false, false, false, false, false, false] rfl rfl (by kernel_rfl) (fun _ _ _ h_ => h_) (Or.inl ⟨by rfl, ?_⟩) hHeld ?_ ?_
                rotate_left
                · intro w_ hSw
                  (obtain ⟨-, hz0, hz1, hz2, hz3⟩ := hSw)
                  go_simp
                  first | done | with_reducible rfl
                rotate_left
                · simp only [Act.put, List.setIfInBounds_toArray, List.set_cons_zero, List.set_cons_succ]
                  rfl
                refine take_ (i := 14) (N := some 52) (v := ?_) (a' := ?_) #[true, true, true, true, true, true, true, false, true, false, true, true, true, true, true, false, false, false, false, false, false] rfl rfl (by kernel_rfl) (fun _ _ _ h_ => h_) (Or.inl ⟨by rfl, ?_⟩) hHeld ?_ ?_
                rotate_left
                · intro w_ hSw
                  (obtain ⟨-, hz0, hz1, hz2, hz3⟩ := hSw)
                  go_simp
                  first | done | with_reducible rfl
                rotate_left
                · simp only [Act.put, List.setIfInBounds_toArray, List.set_cons_zero, List.set_cons_succ]
                  rfl
                refine take_ (i := 15) (N := some 53) (v := ?_) (a' := ?_) #[true, true, true, true, true, true, true, false, true, false, true, true, true, true, true, true, false, false, false, false, false] rfl rfl (by kernel_rfl) (fun _ _ _ h_ => h_) (Or.inl ⟨by rfl, ?_⟩) hHeld ?_ ?_
                rotate_left
                · intro w_ hSw
                  (obtain ⟨-, hz0, hz1, hz2, hz3⟩ := hSw)
                  go_simp
                  first | done | with_reducible rfl
                rotate_left
                · simp only [Act.put, List.setIfInBounds_toArray, List.set_cons_zero, List.set_cons_succ]
                  rfl
                refine take_ (i := 16) (N := some 54) (v := ?_) (a' := ?_) #[true, true, true, true, true, true, true, false, true, false, true, true, true, true, true, true, true, false, false, false, false] rfl rfl (by kernel_rfl) (fun _ _ _ h_ => h_) (Or.inl ⟨by rfl, ?_⟩) hHeld ?_ ?_
                rotate_left
                · intro w_ hSw
                  (obtain ⟨-, hz0, hz1, hz2, hz3⟩ := hSw)
                  go_simp
                  first | done | with_reducible rfl
                rotate_left
                · simp only [Act.put, List.setIfInBounds_toArray, List.set_cons_zero, List.set_cons_succ]
                  rfl
                refine join_ (σ := Value × Value × Value) 3 #[true, true, true, true, true, true, true, true, true, true, true, true, true, true, true, true, true, true, false, false, false] (fun s => [(45, s.1), (47, s.2.1), (55, s.2.2)]) (fun s w' => cS.RD w' s.1 ma ∧ cS.RD w' s.2.1 [x] ∧ cS.RD w' s.2.2 mb ∧ Below wr.heap.size wr w') ?hcont (fun hj => ?_)
                rotate_left
                refine two_ (i := 7) (j := 9) (Ni := some 45) (Nj := some 47) #[true, true, true, true, true, true, true, true, true, false, true, true, true, true, true, true, true, false, false, false, false] #[true, true, true, true, true, true, true, false, true, true, true, true, true, true, true, true, true, false, false, false, false] rfl rfl rfl rfl (by kernel_rfl) (by decide) (by decide) (fun K_ hK_ => ?_) (fun K_ hK_ => ?_)
                · go_simp
                  (first | (go_at_fn 58; refine (MA.out _ (cS.drew2 wr)).mono ?_) | (refine (MA.out _ (cS.drew2 wr)).mono ?_))
                  rintro e w6 ⟨vA, rfl, hrdA, hbe⟩
                  have hbw6 := Below.trans (cS.drew2 wr) (Below.mono hbe (below_size (cS.drew2 wr)))
                  refine hK_.out _ _ (hS5 _ hbw6) (fun hHeld => ?_)
                  clear hK_ K_
                  try (refine norm_ (by simp only [Act.put, List.setIfInBounds_toArray, List.set_cons_zero, List.set_cons_succ]; rfl) ?_)
                  refine two_ (i := 9) (j := 17) (Ni := some 47) (Nj := some 55) #[true, true, true, true, true, true, true, true, true, true, true, true, true, true, true, true, true, false, false, false, false] #[true, true, true, true, true, true, true, true, true, false, true, true, true, true, true, true, true, true, false, false, false] rfl rfl rfl rfl (by kernel_rfl) (by decide) (by decide) (fun K_ hK_ => ?_) (fun K_ hK_ => ?_)
                  · go_simp
                    have hrdN := cS.RD.one (w6) x rfl
                    have hbN := Below.alloc hbw6 (below_size hbw6) (.cells #[.int .i64 x] 3)
                    refine hK_.out _ _ (hS5 _ hbN) (fun hHeld => ?_)
                    clear hK_ K_
                    try (refine norm_ (by simp only [Act.put, List.setIfInBounds_toArray, List.set_cons_zero, List.set_cons_succ]; rfl) ?_)
                    refine one_ (i := 17) (N := some 55) #[true, true, true, true, true, true, true, true, true, true, true, true, true, true, true, true, true, true, false, false, false] rfl rfl (by kernel_rfl) (by decide) (fun K_ hK_ => ?_)
                    go_simp
                    (first | (go_at_fn 58; refine (MB.out _ hbN).mono ?_) | (refine (MB.out _ hbN).mono ?_))
                    rintro e w7 ⟨vB, rfl, hrdB, hbe⟩
                    have hbw7 := Below.trans hbN (Below.mono hbe (below_size hbN))
                    refine hK_.out _ _ (hS5 _ hbw7) (fun hHeld => ?_)
                    clear hK_ K_
                    try (refine norm_ (by simp only [Act.put, List.setIfInBounds_toArray, List.set_cons_zero, List.set_cons_succ]; rfl) ?_)
                    exact hj ⟨vA, _, vB⟩ _ ⟨(hrdA.below (Below.trans (below_alloc (Below.refl _ _) _) (Below.mono hbe (by simp)))), (hrdN.below hbe), hrdB, hbw7⟩
                  · go_simp
                    have hbe6 := hbe
                    clear hbe
                    (first | (go_at_fn 58; refine (MB.out _ hbw6).mono ?_) | (refine (MB.out _ hbw6).mono ?_))
                    rintro e w7 ⟨vB, rfl, hrdB, hbe⟩
                    have hbw7 := Below.trans hbw6 (Below.mono hbe (below_size hbw6))
                    refine hK_.out _ _ (hS5 _ hbw7) (fun hHeld => ?_)
                    clear hK_ K_
                    try (refine norm_ (by simp only [Act.put, List.setIfInBounds_toArray, List.set_cons_zero, List.set_cons_succ]; rfl) ?_)
                    refine one_ (i := 9) (N := some 47) #[true, true, true, true, true, true, true, true, true, true, true, true, true, true, true, true, true, true, false, false, false] rfl rfl (by kernel_rfl) (by decide) (fun K_ hK_ => ?_)
                    go_simp
                    have hrdN := cS.RD.one (w7) x rfl
                    have hbN := Below.alloc hbw7 (below_size hbw7) (.cells #[.int .i64 x] 3)
                    refine hK_.out _ _ (hS5 _ hbN) (fun hHeld => ?_)
                    clear hK_ K_
                    try (refine norm_ (by simp only [Act.put, List.setIfInBounds_toArray, List.set_cons_zero, List.set_cons_succ]; rfl) ?_)
                    exact hj ⟨vA, _, vB⟩ _ ⟨(hrdA.below (Below.alloc hbe (below_size hbe) _)), hrdN, (hrdB.below (below_alloc (Below.refl _ _) _)), hbN⟩
                · go_simp
                  have hrdN := cS.RD.one (wr.drew) x rfl
                  have hbN := Below.alloc (cS.drew2 wr) (below_size (cS.drew2 wr)) (.cells #[.int .i64 x] 3)
                  refine hK_.out _ _ (hS5 _ hbN) (fun hHeld => ?_)
                  clear hK_ K_
                  try (refine norm_ (by simp only [Act.put, List.setIfInBounds_toArray, List.set_cons_zero, List.set_cons_succ]; rfl) ?_)
                  refine one_ (i := 7) (N := some 45) #[true, true, true, true, true, true, true, true, true, true, true, true, true, true, true, true, true, false, false, false, false] rfl rfl (by kernel_rfl) (by decide) (fun K_ hK_ => ?_)
                  go_simp
                  (first | (go_at_fn 58; refine (MA.out _ hbN).mono ?_) | (refine (MA.out _ hbN).mono ?_))
                  rintro e w6 ⟨vA, rfl, hrdA, hbe⟩
                  have hbw6 := Below.trans hbN (Below.mono hbe (below_size hbN))
                  refine hK_.out _ _ (hS5 _ hbw6) (fun hHeld => ?_)
                  clear hK_ K_
                  try (refine norm_ (by simp only [Act.put, List.setIfInBounds_toArray, List.set_cons_zero, List.set_cons_succ]; rfl) ?_)
                  have hbe6 := hbe
                  clear hbe
                  refine one_ (i := 17) (N := some 55) #[true, true, true, true, true, true, true, true, true, true, true, true, true, true, true, true, true, true, false, false, false] rfl rfl (by kernel_rfl) (by decide) (fun K_ hK_ => ?_)
                  go_simp
                  (first | (go_at_fn 58; refine (MB.out _ hbw6).mono ?_) | (refine (MB.out _ hbw6).mono ?_))
                  rintro e w7 ⟨vB, rfl, hrdB, hbe⟩
                  have hbw7 := Below.trans hbw6 (Below.mono hbe (below_size hbw6))
                  refine hK_.out _ _ (hS5 _ hbw7) (fun hHeld => ?_)
                  clear hK_ K_
                  try (refine norm_ (by simp only [Act.put, List.setIfInBounds_toArray, List.set_cons_zero, List.set_cons_succ]; rfl) ?_)
                  exact hj ⟨vA, _, vB⟩ _ ⟨(hrdA.below hbe), (hrdN.below (Below.trans hbe6 (Below.mono hbe (below_size hbe6)))), hrdB, hbw7⟩
                rintro ⟨vA, vN, vB⟩ w6 ⟨hrA, hrN, hrB, hb6⟩
                dsimp only at hrA hrN hrB
                obtain ⟨AA, cA, rfl, lA, CA⟩ := hrA
                obtain ⟨AN, cN, rfl, lN, CN⟩ := hrN
                obtain ⟨AB, cB, rfl, lB, CB⟩ := hrB
                have hrA : cS.RD w6 (.slice AA ma.length cA) ma := ⟨_, _, rfl, lA, CA⟩
                have hrN : cS.RD w6 (.slice AN [x].length cN) [x] := ⟨_, _, rfl, lN, CN⟩
                have hrB : cS.RD w6 (.slice AB mb.length cB) mb := ⟨_, _, rfl, lB, CB⟩
                clear lA lN lB CA CN CB
                refine norm_ (by simp only [putAll, Act.put, List.setIfInBounds_toArray, List.set_cons_zero, List.set_cons_succ]; rfl) ?_
                refine one_ (i := 18) (N := some 56) #[true, true, true, true, true, true, true, true, true, true, true, true, true, true, true, true, true, true, true, false, false] rfl rfl (by kernel_rfl) (by decide) (fun K_ hK_ => ?_)
                go_simp
                have hb7 := Below.alloc hb6 (below_size hb6) (.cells #[.slice AA ma.length cA, .slice AN [x].length cN, .slice AB mb.length cB] 23)
                refine hK_.out _ _ (hS5 _ hb7) (fun hHeld => ?_)
                clear hK_ K_
                try (refine norm_ (by simp only [Act.put, List.setIfInBounds_toArray, List.set_cons_zero, List.set_cons_succ]; rfl) ?_)
                refine one_ (i := 19) (N := some 57) #[true, true, true, true, true, true, true, true, true, true, true, true, true, true, true, true, true, true, true, true, false] rfl rfl (by kernel_rfl) (by decide) (fun K_ hK_ => ?_)
                go_simp
                (first | (go_at_call 59; refine (cS.catR hrA hrN hrB rfl (by have := LM.out; simp; omega)).mono ?_) | (refine (cS.catR hrA hrN hrB rfl (by have := LM.out; simp; omega)).mono ?_))
                rintro e w9 ⟨vC, rfl, hrC, hbe⟩
                have hb9 := Below.trans hb6 (Below.mono hbe (below_size hb6))
                refine hK_.out _ _ (hS5 _ hb9) (fun hHeld => ?_)
                clear hK_ K_
                try (refine norm_ (by simp only [Act.put, List.setIfInBounds_toArray, List.set_cons_zero, List.set_cons_succ]; rfl) ?_)
                refine one_ (i := 20) (N := some 12) #[true, true, true, true, true, true, true, true, true, true, true, true, true, true, true, true, true, true, true, true, true] rfl rfl (by kernel_rfl) (by decide) (fun K_ hK_ => ?_)
                go_simp
                refine hK_.out _ _ (hS5 _ hb9) (fun hHeld => ?_)
                clear hK_ K_
                try (refine norm_ (by simp only [Act.put, List.setIfInBounds_toArray, List.set_cons_zero, List.set_cons_succ]; rfl) ?_)
                refine done_ (by kernel_rfl) ?_
                have HB9 := Aside0.mk hb9
                have HRC := Aside0.mk (Kd.R_mono (Kd.R_bound (Kd.R_lower hrC (below_size hb6))) (ok' := fun k => wr.heap.size ≤ k) (fun k hk => hk.2.1))
                clear hb9 hrC hbe hb6 hb7 hrA hrN hrB
                clear hS5 z0 z1 z2 z3 q1 q1b e1 e1w MA MB LM hcx hq1
                have HS9 := Aside0.mk (HS.out.kept HB9.out)
                have hcut := fun i hi => cut_to (P := Try.prog) (i := i) 101 103 .i64 Try.underlying101 hi (some ad) st.length c n2 (by have := NN.out; have := CST.out; omega) (by have := NN.out; have := CST.out; omega) hcc
                have q2c : (n2 ≤ (c : Int)) = True := eq_true (by have := NN.out; omega)
                obtain ⟨BC, cC, ev⟩ := Kd.R_slice HRC.out
                generalize ([ma, [x], mb].flatten).length = ln at ev
                subst ev
                clear q2b
                go_wp2_with (first
                  | ((with_reducible refine gate_builtin (b := .append) (xs := #[.tmp 61, .tmp 65]) rfl ?_); at_builtin; go_loud (refine Kd.R_append k103 (w0 := w) w.heap.size rfl (.tmp 61) (.tmp 65) 101 103 (.agg #[.slice none 0 0, .int .i64 0]) 32 rfl Try.underlying101 cS.info rfl (by decide) (by omega) (.slice (some ad) n2.toNat c) (st.take n2.toNat) ⟨[ma, [x], mb].flatten, x⟩ _ (fun k => k ≠ g) (fun k => wr.heap.size ≤ k) rfl rfl ?xm ?xo ?xf (Kd.R_take HS9.out.rs (by have := NN.out; omega)) HS9.out.below (below_size HS9.out.below) ?xl ?_); (case xm => exact k103_mkM _ _ _ ⟨[ma, [x], mb].flatten, x⟩ (Kd.R_lower HRC.out (below_size HBE.out))); (case xo => exact fun k hk => ⟨by have := blk_lt HS.out.bg; omega, fun e => by have := Kd.R_lt HS.out.rs _ e.symm; omega⟩); (case xf => exact fun k hk => (by have := blk_lt HS9.out.bg; omega)); (case xl => (have := LS.out; rw [List.length_take]; omega)); intro v1 w1' hr1 hb1 hg1 hat1; have HSV := Aside0.mk (show cS.Sv w g A0 l0.length c0 v1 (st.take n2.toNat ++ [⟨[ma, [x], mb].flatten, x⟩]) w1' from ⟨hb1, HS9.out.g1, blk_grown HS9.out.bg hg1 (fun e => Kd.R_away HS9.out.rs (fun _ hk => hk) e), hr1⟩); clear hr1 hb1 hg1 hat1))
                go_roundg q
                case measure => omega
                case rel => exact ⟨i + 1, _, by go_num, by omega, HSV, HL⟩
              · rw [if_neg cg] at hL; cases hL
        · rw [if_neg ci] at hL
          have ciz : ((i : Int) < (l1.length : Int)) = False := eq_false (by omega)
          by_cases c1 : st.length ≠ 1
          · rw [if_pos c1] at hL
            have hL := Option.some.inj hL
            injection hL with h1 h2
            subst h1; subst h2
            have c1t : ((st.length : Int) == 1) = false := by rw [beq_eq_false_iff_ne]; omega
            have c1n : ((st.length : Int) != 1) = true := by rw [bne_iff_ne]; omega
            clear c1
            go_wp2
            go_ret2
            exact ⟨_, rfl, Kd.R_nil _ _ _ _ _, HBE.out⟩
          · rw [if_neg c1] at hL
            have c1t : ((st.length : Int) == 1) = true := by rw [beq_iff_eq]; omega
            have c1n : ((st.length : Int) != 1) = false := by rw [bne_eq_false_iff_eq]; omega
            have c1p : (0 < (st.length : Int)) = True := eq_true (by omega)
            have c1q : (0 < st.length) = True := eq_true (by omega)
            obtain ⟨ad, cd, ev⟩ := Kd.R_slice1 HS.out.rs (by omega)
            injection ev with ev1 ev2 ev3
            subst ev1
            obtain ⟨cs, -, hM, hcs⟩ := Kd.R_get HS.out.rs z103 0 (by omega) (by omega)
            obtain ⟨v0, rfl, hR⟩ := k103_openM hM
            change Kd.R (Kd.int .i64) 3 wr w.heap.size _ v0 (rd_T103 st 0).f0 at hR
            have hc0' := hcs 0 _ rfl
            have hc1' : wr.cell? ad = some v0 := hc0'
            obtain ⟨A2, c2, ev⟩ := Kd.R_slice hR
            have HRR := Aside0.mk (Kd.R_mono hR (fun _ _ => trivial))
            generalize (rd_T103 st 0).f0 = out at hL ev HRR
            subst ev
            clear hM hcs hR c1
            by_cases c6 : out.length > 60
            · rw [if_pos c6] at hL
              have hL := Option.some.inj hL
              injection hL with h1 h2
              subst h1; subst h2
              have c6t : (60 < (out.length : Int)) = True := eq_true (by omega)
              clear c6
              go_wp2
              go_ret2
              exact ⟨_, rfl, Kd.R_nil _ _ _ _ _, HBE.out⟩
            · rw [if_neg c6] at hL
              have hL := Option.some.inj hL
              injection hL with h1 h2
              subst h1; subst h2
              have c6t : (60 < (out.length : Int)) = False := eq_false (by omega)
              clear c6
              go_wp2
              go_ret2
              exact ⟨_, rfl, HRR.out, HBE.out⟩
    · rw [if_neg cl] at h; cases h
  · rw [if_neg ce] at h
    have h := Option.some.inj h
    injection h with h1 h2
    subst h1; subst h2
    have cez : (e != 0) = true := by rw [bne_iff_ne]; exact ce
    go_enter Try.func21, Try.ntmps21
    go_wp2_with (go_at_call 51; refine (climb_wrong.calls k A0 c0 l0 A1 c1 l1 false e _ (Kd.C_below HR0.out BB.out) HC0.out (Kd.C_below HR1.out BB.out) HC1.out HW.out).mono ?_; rintro e w1 ⟨rfl, hb⟩; have HB1 := Aside0.mk (below_step BB.out hb); clear hb)
    go_ret2
    exact ⟨_, rfl, Kd.R_nil _ _ _ _ _, HB1.out⟩

end Go.Proofs.Ythgiiikjcfhgjaa.GC
