-- Written by ext.py, a program of this session.
import Derived.Test.YthgiiikjcfhgjaaGK0
import Derived.Test.YthgiiikjcfhgjaaGK4
import Derived.Test.YthgiiikjcfhgjaaGK6
namespace Go.Proofs.Ythgiiikjcfhgjaa.GK
open Go.RowKit Go.Proofs.YthgiiikjcfhgjaaW.PrintWords Go.Proofs.YthgiiikjcfhgjaaW.PrintLast Go.Proofs.YthgiiikjcfhgjaaW.PrintMore
attribute [local go_sem] max2_int min2_int max_two min_two max_three min_three max_four min_four cellIs_set   -- for this text's walks alone
set_option linter.unusedVariables false
set_option linter.unusedSimpArgs false

/-! ### store_Unpack: function 24 -/
def tR.num (xs : List Int) : Int := wrap64 (wrap64 (rd xs 0) + wrap64 (wrap64 (rd xs 1) * 256))
def tR.next (xs : List Int) (bad : Bool) : Int × List Int × Bool := if xs.length < 2 then (0, xs, true) else (tR.num xs, xs.drop 2, bad)
def tR.many (xs : List Int) (bad : Bool) : Int × List Int × Bool := if wrap64 (2 * (tR.next xs bad).1) > ((tR.next xs bad).2.1.length : Int) then (0, (tR.next xs bad).2.1, true) else tR.next xs bad
def tR.wayL : Nat → Nat → Int → List Int → List Int → Bool → Option (List Int × List Int × Bool)
  | 0, _, _, _, _, _ => none
  | q + 1, i, n, way, xs, bad => if (i : Int) < n then (if i < 100000 ∧ way.length < 100000 then tR.wayL q (i + 1) n (way ++ [(tR.next xs bad).1]) (tR.next xs bad).2.1 (tR.next xs bad).2.2 else none) else some (way, xs, bad)
def tR.waysL : Nat → Nat → Int → List (List Int) → List Int → Bool → Option (List (List Int) × List Int × Bool)
  | 0, _, _, _, _, _ => none
  | q + 1, i, n, ways, xs, bad => if (i : Int) < n then (if i < 100000 ∧ ways.length < 100000 then (tR.wayL q 0 (tR.many xs bad).1 [] (tR.many xs bad).2.1 (tR.many xs bad).2.2).bind fun p => tR.waysL q (i + 1) n (ways ++ [p.1]) p.2.1 p.2.2 else none) else some (ways, xs, bad)
/-- The four numbers ahead of a spot's ways. -/
def tR.four (xs : List Int) (bad : Bool) : Int × Int × Int × Int × List Int × Bool :=
  let a := tR.next xs bad
  let b := tR.next a.2.1 a.2.2
  let d := tR.next b.2.1 b.2.2
  let m := tR.many d.2.1 d.2.2
  (a.1, b.1, d.1, m.1, m.2.1, m.2.2)
def tR.spotsL : Nat → Nat → Int → List S117 → List Int → Bool → Option (List S117 × List Int × Bool)
  | 0, _, _, _, _, _ => none
  | q + 1, i, n, sp, xs, bad => if (i : Int) < n then (if i < 100000 ∧ sp.length < 100000 then (tR.waysL q 0 (tR.four xs bad).2.2.2.1 [] (tR.four xs bad).2.2.2.2.1 (tR.four xs bad).2.2.2.2.2).bind fun p => tR.spotsL q (i + 1) n (sp ++ [⟨(tR.four xs bad).1, (tR.four xs bad).2.1, (tR.four xs bad).2.2.1, p.1⟩]) p.2.1 p.2.2 else none) else some (sp, xs, bad)
def tU.body (k : Nat) (xs : List Int) : Option (List S117 × Int × Int) :=
  (tR.spotsL k 0 (tR.many (tR.next xs false).2.1 (tR.next xs false).2.2).1 [] (tR.many (tR.next xs false).2.1 (tR.next xs false).2.2).2.1 (tR.many (tR.next xs false).2.1 (tR.next xs false).2.2).2.2).bind fun p =>
    if p.2.2 = true ∨ 0 < p.2.1.length then some ([], 0, 3) else (store_sound.f k p.1 (tR.next xs false).1).bind fun g => if g = true then some (p.1, (tR.next xs false).1, 0) else some ([], 0, 3)
def store_Unpack.f (k : Nat) (l0 : List Int) : Option (List S117 × Int × Int) :=
  if l0.length > 4000 then some ([], 0, 1) else if l0.length < 4 then some ([], 0, 7)
  else (store_Sum.f k (l0.take (l0.length - 4))).bind fun s => (bytes_Equal.f s (l0.drop (l0.length - 4))).bind fun e => if e = true then tU.body k (l0.take (l0.length - 4)) else some ([], 0, 7)
theorem tR.wayL_mono : ∀ q, ∀ i n way xs bad, LeO (tR.wayL q i n way xs bad) (tR.wayL (q + 1) i n way xs bad)
  | 0 => fun _ _ _ _ _ r h => by simp [tR.wayL] at h
  | q + 1 => by
    have ih := tR.wayL_mono q
    intro i n way xs bad
    rw [tR.wayL, tR.wayL]
    repeat' first
      | exact ih _ _ _ _ _
      | exact LeO.refl _
      | exact LeO.none _
      | refine LeO.ite ?_ ?_
theorem tR.waysL_mono : ∀ q, ∀ i n ways xs bad, LeO (tR.waysL q i n ways xs bad) (tR.waysL (q + 1) i n ways xs bad)
  | 0 => fun _ _ _ _ _ r h => by simp [tR.waysL] at h
  | q + 1 => by
    have ih := tR.waysL_mono q
    have iw := tR.wayL_mono q
    intro i n way xs bad
    rw [tR.waysL, tR.waysL]
    repeat' first
      | exact ih _ _ _ _ _
      | exact iw _ _ _ _ _
      | exact LeO.refl _
      | exact LeO.none _
      | refine LeO.ite ?_ ?_
      | refine LeO.bind ?_ (fun _ => ?_)
theorem tR.spotsL_mono : ∀ q, ∀ i n sp xs bad, LeO (tR.spotsL q i n sp xs bad) (tR.spotsL (q + 1) i n sp xs bad)
  | 0 => fun _ _ _ _ _ r h => by simp [tR.spotsL] at h
  | q + 1 => by
    have ih := tR.spotsL_mono q
    have iw := tR.waysL_mono q
    intro i n way xs bad
    rw [tR.spotsL, tR.spotsL]
    repeat' first
      | exact ih _ _ _ _ _
      | exact iw _ _ _ _ _
      | exact LeO.refl _
      | exact LeO.none _
      | refine LeO.ite ?_ ?_
      | refine LeO.bind ?_ (fun _ => ?_)
theorem store_Unpack.mono : ∀ a0 k, LeO (store_Unpack.f k a0) (store_Unpack.f (k + 1) a0) := by
  intro a0 k
  have i1 := store_Sum.mono
  have i2 := store_sound.mono
  have i3 := tR.spotsL_mono k
  unfold store_Unpack.f tU.body
  repeat' first
      | exact i1 _ _
      | exact i2 _ _ _
      | exact i3 _ _ _ _ _
      | exact LeO.refl _
      | exact LeO.none _
      | refine LeO.ite ?_ ?_
      | refine LeO.bind ?_ (fun _ => ?_)
structure tR.Sv (w0 : World) (p : Nat) (A : Option Addr) (c : Nat) (xs : List Int) (bad : Bool) (w : World) : Prop where
  below : Below w0.heap.size w0 w
  gp : w0.heap.size ≤ p
  b : w.heap[p]? = some (.cells #[.slice A xs.length c, .bool bad] 115 (0, 0))
  r : Kd.C (Kd.int .u8) w0 A xs.length xs
  hc : xs.length ≤ c
/-- What a reading leaves as it was. -/
structure tR.To (p : Nat) (w w' : World) : Prop where
  size : w.heap.size ≤ w'.heap.size
  fr : ∀ k, k < w.heap.size → k ≠ p → w'.heap[k]? = w.heap[k]?
set_option maxRecDepth 100000 in
theorem tR.To.refl (p : Nat) (w : World) : tR.To p w w := ⟨Nat.le_refl _, fun _ _ _ => rfl⟩
set_option maxRecDepth 100000 in
theorem tR.To.trans {p : Nat} {w w1 w2 : World} (h : tR.To p w w1) (k : tR.To p w1 w2) : tR.To p w w2 :=
  ⟨Nat.le_trans h.size k.size, fun b hb hp => (k.fr b (Nat.lt_of_lt_of_le hb h.size) hp).trans (h.fr b hb hp)⟩
set_option maxRecDepth 100000 in
theorem tR.To.set (p j : Nat) (u : Value) (w : World) : tR.To p w (w.setCell ⟨p, j, none⟩ u) := ⟨Nat.le_of_eq (by simp), fun k _ hp => Below.heap_setCell w _ u k hp⟩
set_option maxRecDepth 100000 in
theorem tR.To.drewN (p n : Nat) (w : World) : tR.To p w (w.drewN n) := ⟨Nat.le_refl _, fun _ _ _ => rfl⟩
set_option maxRecDepth 100000 in
theorem tR.To.drew (p : Nat) (w : World) : tR.To p w w.drew := ⟨Nat.le_refl _, fun _ _ _ => rfl⟩
set_option maxRecDepth 100000 in
theorem tR.info5 : (Try.prog.info? 5).map (fun i => (i.zero, i.size, i.bytes)) = some (some (.int .u8 0), 1, 1) := by kernel_rfl
set_option maxRecDepth 100000 in
theorem tR.fin {w0 w : World} {p : Nat} {A X : Option Addr} {c : Nat} {xs : List Int} {bad : Bool} (h : tR.Sv w0 p A c xs bad w) (hl : 2 ≤ xs.length) (hC : Kd.C (Kd.int .u8) w0 X (xs.drop 2).length (xs.drop 2)) : tR.Sv w0 p X (c - 2) (xs.drop 2) bad (w.setCell ⟨p, 0, none⟩ (.slice X (xs.length - 2) (c - 2))).drew := by
  have e : xs.length - 2 = (xs.drop 2).length := by rw [List.length_drop]
  refine ⟨below_drew (h.below.setCell h.gp _), h.gp, ?_, hC, by have := h.hc; rw [List.length_drop]; omega⟩
  rw [← e]
  exact blk_set h.b 0 _
set_option maxRecDepth 100000 in
set_option maxHeartbeats 4000000 in
theorem tR.next_calls {w0 w : World} {p : Nat} {A : Option Addr} {c : Nat} {xs : List Int} {bad : Bool} (h : tR.Sv w0 p A c xs bad w) :
    Calls Try.prog 68 #[.pointer (some ⟨p, 0, none⟩)] w fun e w' => e = .returned (.int .i64 (tR.next xs bad).1) ∧ ∃ A' c', tR.Sv w0 p A' c' (tR.next xs bad).2.1 (tR.next xs bad).2.2 w' ∧ tR.To p w w' := by
  have hu115 := Try.underlying115
  have q0 := (blk_cell h.b 0).trans rfl
  have q1 := (blk_cell h.b 1).trans rfl
  have f0 := blk_frozen h.b 0
  have f1 := blk_frozen h.b 1
  have hbig : xs.length ≤ 9223372036854775807 := h.r.2.1
  have HS := Aside0.mk h
  by_cases cl : xs.length < 2
  · have clt : ((xs.length : Int) < 2) = True := eq_true (by omega)
    have en : tR.next xs bad = (0, xs, true) := by rw [tR.next, if_pos cl]
    rw [en]
    clear h cl en
    go_enter Try.func68, Try.ntmps68
    go_wp2
    go_ret
    exact ⟨rfl, A, c, ⟨HS.out.below.setCell HS.out.gp _, HS.out.gp, blk_set HS.out.b 1 _, HS.out.r, HS.out.hc⟩, tR.To.set _ _ _ _⟩
  · have clt : ((xs.length : Int) < 2) = False := eq_false (by omega)
    have en : tR.next xs bad = (tR.num xs, xs.drop 2, bad) := by rw [tR.next, if_neg cl]
    rw [en]
    obtain ⟨ad, rfl, y0⟩ := Kd.at_int h.r 0 (by omega) (by omega)
    obtain ⟨ad', ee, y1⟩ := Kd.at_int h.r 1 (by omega) (by omega)
    obtain rfl := Option.some.inj ee
    replace y0 := pw_cell_below h.below y0
    replace y1 := pw_cell_below h.below y1
    replace y0 : w.cell? ad = some (.int .u8 (rd xs 0)) := by simpa [Addr.add] using y0
    replace y1 : w.cell? ⟨ad.block, ad.off + 1, none⟩ = some (.int .u8 (rd xs 1)) := by simpa [Addr.add] using y1
    have p0 : (0 < xs.length) = True := eq_true (by omega)
    have p1 : (1 < xs.length) = True := eq_true (by omega)
    have p0i : (0 < (xs.length : Int)) = True := eq_true (by omega)
    have p1i : (1 < (xs.length : Int)) = True := eq_true (by omega)
    have p2i : (2 ≤ (xs.length : Int)) = True := eq_true (by omega)
    have CL := Aside0.mk (show 2 ≤ xs.length by omega)
    clear h cl en ee
    go_enter Try.func68, Try.ntmps68
    go_wp2
    refine start_ (n := 17) (S := (fun w' => w'.cell? ⟨p, 0, none⟩ = some (.slice (some ad) xs.length c) ∧ w'.cell? ad = some (.int .u8 (rd xs 0)) ∧ w'.cell? ⟨ad.block, ad.off + 1, none⟩ = some (.int .u8 (rd xs 1)))) (ds := []) #[false, false, false, false, false, false, false, false, false, false, false, false, false, false, false, false, false] (by kernel_rfl) rfl rfl (⟨q0, y0, y1⟩) (fun hHeld => ?_)
    refine take_ (i := 0) (N := some 13) (v := ?_) (a' := ?_) #[true, false, false, false, false, false, false, false, false, false, false, false, false, false, false, false, false] rfl rfl (by kernel_rfl) (fun _ _ _ h_ => h_) (Or.inl ⟨by rfl, ?_⟩) hHeld ?_ ?_
    rotate_left
    · intro w_ hSw
      (obtain ⟨hz0, hz1, hz2⟩ := hSw)
      go_simp
      first | done | with_reducible rfl
    rotate_left
    · simp only [Act.put, List.setIfInBounds_toArray, List.set_cons_zero, List.set_cons_succ]
      rfl
    refine take_ (i := 1) (N := some 14) (v := ?_) (a' := ?_) #[true, true, false, false, false, false, false, false, false, false, false, false, false, false, false, false, false] rfl rfl (by kernel_rfl) (fun _ _ _ h_ => h_) (Or.inl ⟨by rfl, ?_⟩) hHeld ?_ ?_
    rotate_left
    · intro w_ hSw
      (obtain ⟨hz0, hz1, hz2⟩ := hSw)
      go_simp
      first | done | with_reducible rfl
    rotate_left
    · simp only [Act.put, List.setIfInBounds_toArray, List.set_cons_zero, List.set_cons_succ]
      rfl
    refine take_ (i := 2) (N := some 15) (v := ?_) (a' := ?_) #[true, true, true, false, false, false, false, false, false, false, false, false, false, false, false, false, false] rfl rfl (by kernel_rfl) (fun _ _ _ h_ => h_) (Or.inl ⟨by rfl, ?_⟩) hHeld ?_ ?_
    rotate_left
    · intro w_ hSw
      (obtain ⟨hz0, hz1, hz2⟩ := hSw)
      go_simp
      first | done | with_reducible rfl
    rotate_left
    · simp only [Act.put, List.setIfInBounds_toArray, List.set_cons_zero, List.set_cons_succ]
      rfl
    refine take_ (i := 3) (N := some 16) (v := ?_) (a' := ?_) #[true, true, true, true, false, false, false, false, false, false, false, false, false, false, false, false, false] rfl rfl (by kernel_rfl) (fun _ _ _ h_ => h_) (Or.inl ⟨by rfl, ?_⟩) hHeld ?_ ?_
    rotate_left
    · intro w_ hSw
      (obtain ⟨hz0, hz1, hz2⟩ := hSw)
      go_simp
      first | done | with_reducible rfl
    rotate_left
    · simp only [Act.put, List.setIfInBounds_toArray, List.set_cons_zero, List.set_cons_succ]
      rfl
    refine take_ (i := 4) (N := some 17) (v := ?_) (a' := ?_) #[true, true, true, true, true, false, false, false, false, false, false, false, false, false, false, false, false] rfl rfl (by kernel_rfl) (fun _ _ _ h_ => h_) (Or.inl ⟨by rfl, ?_⟩) hHeld ?_ ?_
    rotate_left
    · intro w_ hSw
      (obtain ⟨hz0, hz1, hz2⟩ := hSw)
      go_simp
      first | done | with_reducible rfl
    rotate_left
    · simp only [Act.put, List.setIfInBounds_toArray, List.set_cons_zero, List.set_cons_succ]
      rfl
    refine take_ (i := 5) (N := some 18) (v := ?_) (a' := ?_) #[true, true, true, true, true, true, false, false, false, false, false, false, false, false, false, false, false] rfl rfl (by kernel_rfl) (fun _ _ _ h_ => h_) (Or.inl ⟨by rfl, ?_⟩) hHeld ?_ ?_
    rotate_left
    · intro w_ hSw
      (obtain ⟨hz0, hz1, hz2⟩ := hSw)
      go_simp
      first | done | with_reducible rfl
    rotate_left
    · simp only [Act.put, List.setIfInBounds_toArray, List.set_cons_zero, List.set_cons_succ]
      rfl
    refine take_ (i := 6) (N := some 19) (v := ?_) (a' := ?_) #[true, true, true, true, true, true, true, false, false, false, false, false, false, false, false, false, false] rfl rfl (by kernel_rfl) (fun _ _ _ h_ => h_) (Or.inl ⟨by rfl, ?_⟩) hHeld ?_ ?_
    rotate_left
    · intro w_ hSw
      (obtain ⟨hz0, hz1, hz2⟩ := hSw)
      go_simp
      first | done | with_reducible rfl
    rotate_left
    · simp only [Act.put, List.setIfInBounds_toArray, List.set_cons_zero, List.set_cons_succ]
      rfl
    refine take_ (i := 7) (N := some 20) (v := ?_) (a' := ?_) #[true, true, true, true, true, true, true, true, false, false, false, false, false, false, false, false, false] rfl rfl (by kernel_rfl) (fun _ _ _ h_ => h_) (Or.inl ⟨by rfl, ?_⟩) hHeld ?_ ?_
    rotate_left
    · intro w_ hSw
      (obtain ⟨hz0, hz1, hz2⟩ := hSw)
      go_simp
      first | done | with_reducible rfl
    rotate_left
    · simp only [Act.put, List.setIfInBounds_toArray, List.set_cons_zero, List.set_cons_succ]
      rfl
    refine take_ (i := 8) (N := some 21) (v := ?_) (a' := ?_) #[true, true, true, true, true, true, true, true, true, false, false, false, false, false, false, false, false] rfl rfl (by kernel_rfl) (fun _ _ _ h_ => h_) (Or.inl ⟨by rfl, ?_⟩) hHeld ?_ ?_
    rotate_left
    · intro w_ hSw
      (obtain ⟨hz0, hz1, hz2⟩ := hSw)
      go_simp
      first | done | with_reducible rfl
    rotate_left
    · simp only [Act.put, List.setIfInBounds_toArray, List.set_cons_zero, List.set_cons_succ]
      rfl
    refine take_ (i := 9) (N := some 22) (v := ?_) (a' := ?_) #[true, true, true, true, true, true, true, true, true, true, false, false, false, false, false, false, false] rfl rfl (by kernel_rfl) (fun _ _ _ h_ => h_) (Or.inl ⟨by rfl, ?_⟩) hHeld ?_ ?_
    rotate_left
    · intro w_ hSw
      (obtain ⟨hz0, hz1, hz2⟩ := hSw)
      go_simp
      first | done | with_reducible rfl
    rotate_left
    · simp only [Act.put, List.setIfInBounds_toArray, List.set_cons_zero, List.set_cons_succ]
      rfl
    refine take_ (i := 10) (N := some 23) (v := ?_) (a' := ?_) #[true, true, true, true, true, true, true, true, true, true, true, false, false, false, false, false, false] rfl rfl (by kernel_rfl) (fun _ _ _ h_ => h_) (Or.inl ⟨by rfl, ?_⟩) hHeld ?_ ?_
    rotate_left
    · intro w_ hSw
      (obtain ⟨hz0, hz1, hz2⟩ := hSw)
      go_simp
      first | done | with_reducible rfl
    rotate_left
    · simp only [Act.put, List.setIfInBounds_toArray, List.set_cons_zero, List.set_cons_succ]
      rfl
    refine take_ (i := 11) (N := some 24) (v := ?_) (a' := ?_) #[true, true, true, true, true, true, true, true, true, true, true, true, false, false, false, false, false] rfl rfl (by kernel_rfl) (fun _ _ _ h_ => h_) (Or.inl ⟨by rfl, ?_⟩) hHeld ?_ ?_
    rotate_left
    · intro w_ hSw
      (obtain ⟨hz0, hz1, hz2⟩ := hSw)
      go_simp
      first | done | with_reducible rfl
    rotate_left
    · simp only [Act.put, List.setIfInBounds_toArray, List.set_cons_zero, List.set_cons_succ]
      rfl
    refine take_ (i := 12) (N := some 25) (v := ?_) (a' := ?_) #[true, true, true, true, true, true, true, true, true, true, true, true, true, false, false, false, false] rfl rfl (by kernel_rfl) (fun _ _ _ h_ => h_) (Or.inl ⟨by rfl, ?_⟩) hHeld ?_ ?_
    rotate_left
    · intro w_ hSw
      (obtain ⟨hz0, hz1, hz2⟩ := hSw)
      go_simp
      first | done | with_reducible rfl
    rotate_left
    · simp only [Act.put, List.setIfInBounds_toArray, List.set_cons_zero, List.set_cons_succ]
      rfl
    refine take_ (i := 13) (N := some 26) (v := ?_) (a' := ?_) #[true, true, true, true, true, true, true, true, true, true, true, true, true, true, false, false, false] rfl rfl (by kernel_rfl) (fun _ _ _ h_ => h_) (Or.inl ⟨by rfl, ?_⟩) hHeld ?_ ?_
    rotate_left
    · intro w_ hSw
      (obtain ⟨hz0, hz1, hz2⟩ := hSw)
      go_simp
      first | done | with_reducible rfl
    rotate_left
    · simp only [Act.put, List.setIfInBounds_toArray, List.set_cons_zero, List.set_cons_succ]
      rfl
    refine take_ (i := 14) (N := some 27) (v := ?_) (a' := ?_) #[true, true, true, true, true, true, true, true, true, true, true, true, true, true, true, false, false] rfl rfl (by kernel_rfl) (fun _ _ _ h_ => h_) (Or.inl ⟨by rfl, ?_⟩) hHeld ?_ ?_
    rotate_left
    · intro w_ hSw
      (obtain ⟨hz0, hz1, hz2⟩ := hSw)
      go_simp
      first | done | with_reducible rfl
    rotate_left
    · simp only [Act.put, List.setIfInBounds_toArray, List.set_cons_zero, List.set_cons_succ]
      rfl
    refine take_ (i := 15) (N := some 28) (v := ?_) (a' := ?_) #[true, true, true, true, true, true, true, true, true, true, true, true, true, true, true, true, false] rfl rfl (by kernel_rfl) (fun _ _ _ h_ => h_) (Or.inl ⟨by rfl, ?_⟩) hHeld ?_ ?_
    rotate_left
    · intro w_ hSw
      (obtain ⟨hz0, hz1, hz2⟩ := hSw)
      go_simp
      first | done | with_reducible rfl
    rotate_left
    · simp only [Act.put, List.setIfInBounds_toArray, List.set_cons_zero, List.set_cons_succ]
      rfl
    refine take_ (i := 16) (N := some 3) (v := ?_) (a' := ?_) #[true, true, true, true, true, true, true, true, true, true, true, true, true, true, true, true, true] rfl rfl (by kernel_rfl) (fun _ _ _ h_ => h_) (Or.inl ⟨by rfl, ?_⟩) hHeld ?_ ?_
    rotate_left
    · intro w_ hSw
      (obtain ⟨hz0, hz1, hz2⟩ := hSw)
      go_simp
      first | done | with_reducible rfl
    rotate_left
    · simp only [Act.put, List.setIfInBounds_toArray, List.set_cons_zero, List.set_cons_succ]
      rfl
    refine done_ (by kernel_rfl) ?_
    clear y0 y1 q0
    have q0 := (blk_cell HS.out.b 0).trans rfl
    have hsz5 : ∀ i, Try.prog.info? 5 = some i → i.size = 1 := fun i h => by
      have := tR.info5
      rw [h] at this
      simp at this
      exact this.2.1
    have hC := Kd.C_drop (k := Kd.int .u8) (m := 2) HS.out.r (by have := CL.out; omega) HS.out.hc
    have e1 : (Kd.int .u8).sz = 1 := rfl
    rw [e1] at hC
    clear e1
    by_cases c2 : c = 2
    · rw [if_pos c2] at hC
      have HC := Aside0.mk (tR.fin HS.out CL.out (X := some ad) hC)
      have c2t : (c = 2) = True := eq_true c2
      clear hC
      subst c2
      go_wp2
      all_goals go_ret
      all_goals refine ⟨by show Ending.returned (.int .i64 (IntKind.i64.wrap (IntKind.i64.wrap (rd xs 0) + IntKind.i64.wrap (IntKind.i64.wrap (rd xs 1) * 256)))) = _; rw [tR.num]; simp only [i64_w], ?_⟩
      all_goals first | exact ⟨_, _, HC.out, (tR.To.set p 0 _ w).trans (tR.To.drew p (w.setCell _ _))⟩ | exact ⟨⟨_, _, HC.out⟩, (tR.To.set p 0 _ w).trans (tR.To.drew p (w.setCell _ _))⟩
    · rw [if_neg c2] at hC
      have HC := Aside0.mk (tR.fin HS.out CL.out (X := some ⟨ad.block, ad.off + 2, none⟩) (by simpa [Addr.add] using hC))
      have c2t : (c = 2) = False := eq_false c2
      clear hC c2
      go_wp2
      all_goals go_ret
      all_goals refine ⟨by show Ending.returned (.int .i64 (IntKind.i64.wrap (IntKind.i64.wrap (rd xs 0) + IntKind.i64.wrap (IntKind.i64.wrap (rd xs 1) * 256)))) = _; rw [tR.num]; simp only [i64_w], ?_⟩
      all_goals first | exact ⟨_, _, HC.out, (tR.To.set p 0 _ w).trans (tR.To.drew p (w.setCell _ _))⟩ | exact ⟨⟨_, _, HC.out⟩, (tR.To.set p 0 _ w).trans (tR.To.drew p (w.setCell _ _))⟩
set_option maxRecDepth 100000 in
set_option maxHeartbeats 4000000 in
theorem tR.many_calls {w0 w : World} {p : Nat} {A : Option Addr} {c : Nat} {xs : List Int} {bad : Bool} (h : tR.Sv w0 p A c xs bad w) :
    Calls Try.prog 69 #[.pointer (some ⟨p, 0, none⟩)] w fun e w' => e = .returned (.int .i64 (tR.many xs bad).1) ∧ ∃ A' c', tR.Sv w0 p A' c' (tR.many xs bad).2.1 (tR.many xs bad).2.2 w' ∧ tR.To p w w' := by
  have hu115 := Try.underlying115
  have HN := Aside0.mk (tR.next_calls h)
  have em : tR.many xs bad = if wrap64 (2 * (tR.next xs bad).1) > ((tR.next xs bad).2.1.length : Int) then (0, (tR.next xs bad).2.1, true) else tR.next xs bad := rfl
  have EM := Aside0.mk em
  clear em h
  generalize tR.next xs bad = r at HN EM
  obtain ⟨x, ys, b2⟩ := r
  dsimp only at HN EM
  by_cases cm : wrap64 (2 * x) > (ys.length : Int)
  · have cmt : ((ys.length : Int) < wrap64 (2 * x)) = True := eq_true cm
    have cmw : ((ys.length : Int) < IntKind.i64.wrap (2 * x)) = True := by rw [i64_w]; exact cmt
    have em := EM.out
    rw [if_pos cm] at em
    rw [em]
    clear cm em
    go_enter Try.func69, Try.ntmps69
    go_wp2_with (go_at_call 68; refine HN.out.mono ?_; rintro e w2 ⟨rfl, A2, c2, hs2, to2⟩; have q0 := (blk_cell hs2.b 0).trans rfl; have q1 := (blk_cell hs2.b 1).trans rfl; have f1 := blk_frozen hs2.b 1; have hbig : ys.length ≤ 9223372036854775807 := hs2.r.2.1; have HS2 := Aside0.mk hs2; have TO2 := Aside0.mk to2; clear hs2 to2)
    go_ret
    first
      | exact ⟨rfl, A2, c2, ⟨HS2.out.below.setCell HS2.out.gp _, HS2.out.gp, blk_set HS2.out.b 1 _, HS2.out.r, HS2.out.hc⟩, TO2.out.trans (tR.To.set _ _ _ _)⟩
      | exact ⟨rfl, ⟨A2, c2, ⟨HS2.out.below.setCell HS2.out.gp _, HS2.out.gp, blk_set HS2.out.b 1 _, HS2.out.r, HS2.out.hc⟩⟩, TO2.out.trans (tR.To.set _ _ _ _)⟩
  · have cmt : ((ys.length : Int) < wrap64 (2 * x)) = False := eq_false cm
    have cmw : ((ys.length : Int) < IntKind.i64.wrap (2 * x)) = False := by rw [i64_w]; exact cmt
    have em := EM.out
    rw [if_neg cm] at em
    rw [em]
    clear cm em
    go_enter Try.func69, Try.ntmps69
    go_wp2_with (go_at_call 68; refine HN.out.mono ?_; rintro e w2 ⟨rfl, A2, c2, hs2, to2⟩; have q0 := (blk_cell hs2.b 0).trans rfl; have hbig : ys.length ≤ 9223372036854775807 := hs2.r.2.1; have HS2 := Aside0.mk hs2; have TO2 := Aside0.mk to2; clear hs2 to2)
    go_ret
    first
      | exact ⟨rfl, A2, c2, HS2.out, TO2.out⟩
      | exact ⟨rfl, ⟨A2, c2, HS2.out⟩, TO2.out⟩
structure tU.O (w : World) (br p bt : Nat) (root : Int) (A : Option Addr) (c : Nat) (xs : List Int) (bad : Bool) (vsp : Value) (sp : List S117) (wr : World) : Prop where
  rd : tR.Sv w p A c xs bad wr
  gr : w.heap.size ≤ br
  gt : w.heap.size ≤ bt
  n1 : br ≠ p
  n2 : br ≠ bt
  n3 : bt ≠ p
  xr : wr.heap[br]? = some (.cells #[.slice none 0 0, .int .i64 0] 39 (0, 0))
  xt : wr.heap[bt]? = some (.cells #[vsp, .int .i64 root] 39 (0, 0))
  rs : Kd.R k117 117 wr w.heap.size (fun k => k ≠ br ∧ k ≠ p ∧ k ≠ bt) vsp sp
def tU.ok (br p bt bs k : Nat) : Prop := k ≠ br ∧ k ≠ p ∧ k ≠ bt ∧ k ≠ bs
structure tU.I (w : World) (br p bt bs : Nat) (root a b d : Int) (A : Option Addr) (c : Nat) (xs : List Int) (bad : Bool) (vsp vw vy : Value) (sp : List S117) (ways : List (List Int)) (way : List Int) (wr : World) : Prop where
  rd : tR.Sv w p A c xs bad wr
  gr : w.heap.size ≤ br
  gt : w.heap.size ≤ bt
  gs : w.heap.size ≤ bs
  n1 : br ≠ p
  n2 : br ≠ bt
  n3 : bt ≠ p
  m1 : bs ≠ br
  m2 : bs ≠ p
  m3 : bs ≠ bt
  xr : wr.heap[br]? = some (.cells #[.slice none 0 0, .int .i64 0] 39 (0, 0))
  xt : wr.heap[bt]? = some (.cells #[vsp, .int .i64 root] 39 (0, 0))
  xb : wr.heap[bs]? = some (.cells #[.int .i64 a, .int .i64 b, .int .i64 d, vw] 117 (0, 0))
  rs : Kd.R k117 117 wr w.heap.size (fun k => (tU.ok br p bt bs k ∧ some k ≠ vw.ownBlock) ∧ some k ≠ vy.ownBlock) vsp sp
  rw : Kd.R (Kd.slice 3 (Kd.int .i64)) 23 wr w.heap.size (fun k => tU.ok br p bt bs k ∧ some k ≠ vy.ownBlock) vw ways
  ry : Kd.R (Kd.int .i64) 3 wr w.heap.size (tU.ok br p bt bs) vy way
section
variable {w wr w1 w2 : World} {br p bt bs : Nat} {root a b d : Int} {A A' : Option Addr} {c c' : Nat} {xs xs' : List Int} {bad bad' : Bool} {vsp vw vy v1 : Value} {sp : List S117} {ways : List (List Int)} {way l1 : List Int}
set_option maxRecDepth 100000 in
theorem tU.O.to (h : tU.O w br p bt root A c xs bad vsp sp wr) (hs : tR.Sv w p A' c' xs' bad' w2) (ht : tR.To p wr w2) : tU.O w br p bt root A' c' xs' bad' vsp sp w2 :=
  ⟨hs, h.gr, h.gt, h.n1, h.n2, h.n3, (ht.fr _ (blk_lt h.xr) h.n1).trans h.xr, (ht.fr _ (blk_lt h.xt) h.n3).trans h.xt, Kd.R_step h.rs (fun k hk hl => ht.fr k hl hk.2.1)⟩
set_option maxRecDepth 100000 in
theorem tU.I.to (h : tU.I w br p bt bs root a b d A c xs bad vsp vw vy sp ways way wr) (hs : tR.Sv w p A' c' xs' bad' w2) (ht : tR.To p wr w2) : tU.I w br p bt bs root a b d A' c' xs' bad' vsp vw vy sp ways way w2 :=
  ⟨hs, h.gr, h.gt, h.gs, h.n1, h.n2, h.n3, h.m1, h.m2, h.m3, (ht.fr _ (blk_lt h.xr) h.n1).trans h.xr, (ht.fr _ (blk_lt h.xt) h.n3).trans h.xt, (ht.fr _ (blk_lt h.xb) h.m2).trans h.xb, Kd.R_step h.rs (fun k hk hl => ht.fr k hl hk.1.1.2.1), Kd.R_step h.rw (fun k hk hl => ht.fr k hl hk.1.2.1), Kd.R_step h.ry (fun k hk hl => ht.fr k hl hk.2.1)⟩
set_option maxRecDepth 100000 in
theorem tR.Sv.grown (h : tR.Sv w p A c xs bad wr) {row : Option Nat} (hb : Below w.heap.size w w1) (hg : wr.grownBy w1 row) (hne : some p ≠ row) : tR.Sv w p A c xs bad w1 := ⟨hb, h.gp, blk_grown h.b hg hne, h.r, h.hc⟩
set_option maxRecDepth 100000 in
theorem tR.Sv.far (h : tR.Sv w p A c xs bad wr) {g j : Nat} (hg : w.heap.size ≤ g) (hne : g ≠ p) (u : Value) : tR.Sv w p A c xs bad (wr.setCell ⟨g, j, none⟩ u) := ⟨h.below.setCell hg _, h.gp, blk_far h.b (fun e => hne e.symm) _, h.r, h.hc⟩
set_option maxRecDepth 100000 in
/-- The box of a spot made. -/
theorem tU.O.inner (h : tU.O w br p bt root A c xs bad vsp sp wr) (a b d : Int) (hbs : bs = wr.heap.size) : tU.I w br p bt bs root a b d A c xs bad vsp (.slice none 0 0) (.slice none 0 0) sp [] [] (wr.alloc (.cells #[.int .i64 a, .int .i64 b, .int .i64 d, .slice none 0 0] 117)) := by
  subst hbs
  have l1 := blk_lt h.xr
  have l2 := blk_lt h.xt
  have l3 := blk_lt h.rd.b
  have hs := below_size h.rd.below
  refine ⟨⟨below_alloc h.rd.below _, h.rd.gp, blk_alloc h.rd.b _, h.rd.r, h.rd.hc⟩, h.gr, h.gt, hs, h.n1, h.n2, h.n3, by omega, by omega, by omega, blk_alloc h.xr _, blk_alloc h.xt _, heap_alloc_new wr _, ?_, Kd.R_nil _ _ _ _ _, Kd.R_nil _ _ _ _ _⟩
  exact Kd.R_apart_nil (Kd.R_apart_nil (Kd.R_mono (Kd.R_alloc (Kd.R_bound h.rs) _) (fun k hk => ⟨hk.1.1, hk.1.2.1, hk.1.2.2, by have := hk.2.2.1; omega⟩)))
set_option maxRecDepth 100000 in
/-- A new way. -/
theorem tU.I.fresh (h : tU.I w br p bt bs root a b d A c xs bad vsp vw vy sp ways way wr) : tU.I w br p bt bs root a b d A c xs bad vsp vw (.slice none 0 0) sp ways [] wr :=
  ⟨h.rd, h.gr, h.gt, h.gs, h.n1, h.n2, h.n3, h.m1, h.m2, h.m3, h.xr, h.xt, h.xb, Kd.R_apart_nil (Kd.R_drop h.rs), Kd.R_apart_nil (Kd.R_drop h.rw), Kd.R_nil _ _ _ _ _⟩
set_option maxRecDepth 100000 in
theorem tU.I.away (h : tU.I w br p bt bs root a b d A c xs bad vsp vw vy sp ways way wr) {g : Nat} (hg : ¬ tU.ok br p bt bs g) : some g ≠ vy.ownBlock ∧ some g ≠ vw.ownBlock ∧ some g ≠ vsp.ownBlock :=
  ⟨fun e => hg (h.ry.1 g e.symm), fun e => hg (h.rw.1 g e.symm).1, fun e => hg (h.rs.1 g e.symm).1.1⟩
set_option maxRecDepth 100000 in
/-- A number behind the way. -/
theorem tU.I.pushY (h : tU.I w br p bt bs root a b d A c xs bad vsp vw vy sp ways way wr) (hg : wr.grownBy w1 vy.ownBlock) (hb : Below w.heap.size w w1) (hr : Kd.R (Kd.int .i64) 3 w1 w.heap.size (tU.ok br p bt bs) v1 l1) (hat : v1.ownBlock = vy.ownBlock ∨ ∃ b, v1.ownBlock = some b ∧ wr.heap.size ≤ b) : tU.I w br p bt bs root a b d A c xs bad vsp vw v1 sp ways l1 w1 :=
  ⟨h.rd.grown hb hg (h.away (fun k => k.2.1 rfl)).1, h.gr, h.gt, h.gs, h.n1, h.n2, h.n3, h.m1, h.m2, h.m3, blk_grown h.xr hg (h.away (fun k => k.1 rfl)).1, blk_grown h.xt hg (h.away (fun k => k.2.2.1 rfl)).1, blk_grown h.xb hg (h.away (fun k => k.2.2.2 rfl)).1, Kd.R_after h.rs hg hat, Kd.R_after h.rw hg hat, hr⟩
set_option maxRecDepth 100000 in
/-- The way behind the ways. -/
theorem tU.I.pushW {l2 : List (List Int)} (h : tU.I w br p bt bs root a b d A c xs bad vsp vw vy sp ways way wr) (hg : wr.grownBy w1 vw.ownBlock) (hb : Below w.heap.size w w1) (hr : Kd.R (Kd.slice 3 (Kd.int .i64)) 23 w1 w.heap.size (tU.ok br p bt bs) v1 l2) (hat : v1.ownBlock = vw.ownBlock ∨ ∃ b, v1.ownBlock = some b ∧ wr.heap.size ≤ b) : tU.I w br p bt bs root a b d A c xs bad vsp v1 (.slice none 0 0) sp l2 [] (w1.setCell ⟨bs, 3, none⟩ v1) :=
  ⟨(h.rd.grown hb hg (h.away (fun k => k.2.1 rfl)).2.1).far h.gs h.m2 _, h.gr, h.gt, h.gs, h.n1, h.n2, h.n3, h.m1, h.m2, h.m3, blk_far (blk_grown h.xr hg (h.away (fun k => k.1 rfl)).2.1) (fun e => h.m1 e.symm) _, blk_far (blk_grown h.xt hg (h.away (fun k => k.2.2.1 rfl)).2.1) (fun e => h.m3 e.symm) _, blk_set (blk_grown h.xb hg (h.away (fun k => k.2.2.2 rfl)).2.1) 3 _, Kd.R_apart_nil (Kd.R_far (Kd.R_after (Kd.R_drop h.rs) hg hat) (fun _ hk => hk.1.2.2.2) _), Kd.R_apart_nil (Kd.R_far hr (fun _ hk => hk.2.2.2) _), Kd.R_nil _ _ _ _ _⟩
set_option maxRecDepth 100000 in
/-- What the way's row may be, for the append to the ways. -/
theorem tU.I.wayM (h : tU.I w br p bt bs root a b d A c xs bad vsp vw vy sp ways way wr) : (Kd.slice 3 (Kd.int .i64)).M wr w.heap.size (fun k => tU.ok br p bt bs k ∧ some k ≠ vw.ownBlock) way [vy] :=
  ⟨vy, rfl, Kd.R_reok rfl h.ry (fun k hk => ⟨h.ry.1 k hk, fun e => (h.rw.1 k e.symm).2 hk.symm⟩)⟩
set_option maxRecDepth 100000 in
/-- The spot behind the spots. -/
theorem tU.I.outer {l2 : List S117} (h : tU.I w br p bt bs root a b d A c xs bad vsp vw vy sp ways way wr) (hg : wr.grownBy w1 vsp.ownBlock) (hb : Below w.heap.size w w1) (hr : Kd.R k117 117 w1 w.heap.size (tU.ok br p bt bs) v1 l2) : tU.O w br p bt root A c xs bad v1 l2 (w1.setCell ⟨bt, 0, none⟩ v1) :=
  ⟨(h.rd.grown hb hg (h.away (fun k => k.2.1 rfl)).2.2).far h.gt h.n3 _, h.gr, h.gt, h.n1, h.n2, h.n3, blk_far (blk_grown h.xr hg (h.away (fun k => k.1 rfl)).2.2) h.n2 _, blk_set (blk_grown h.xt hg (h.away (fun k => k.2.2.1 rfl)).2.2) 0 _, Kd.R_mono (Kd.R_far hr (fun _ hk => hk.2.2.1) _) (fun _ hk => ⟨hk.1, hk.2.1, hk.2.2.1⟩)⟩
set_option maxRecDepth 100000 in
theorem tU.I.spotM (h : tU.I w br p bt bs root a b d A c xs bad vsp vw vy sp ways way wr) : k117.M wr w.heap.size (fun k => tU.ok br p bt bs k ∧ some k ≠ vsp.ownBlock) ⟨a, b, d, ways⟩ [.int .i64 a, .int .i64 b, .int .i64 d, vw] :=
  k117_mkM _ _ _ ⟨a, b, d, ways⟩ (Kd.R_mono (Kd.R_apartR h.rw h.rs (by intro q hq; simp [Kd.slice, Kd.int, Kd.scalar] at hq; omega)) (fun _ hk => ⟨hk.1.1, hk.2⟩))
set_option maxRecDepth 100000 in
theorem tU.I.new (h : tU.I w br p bt bs root a b d A c xs bad vsp vw vy sp ways way wr) (k : Nat) (hk : wr.heap.size ≤ k) : tU.ok br p bt bs k :=
  ⟨fun e => by have := blk_lt h.xr; omega, fun e => by have := blk_lt h.rd.b; omega, fun e => by have := blk_lt h.xt; omega, fun e => by have := blk_lt h.xb; omega⟩
end
set_option maxRecDepth 100000 in
theorem tU.info3 : (Try.prog.info? 3).map (fun i => (i.zero, i.size, i.bytes)) = some (some (.int .i64 0), 1, 8) := by kernel_rfl
set_option maxRecDepth 100000 in
theorem tU.info23 : (Try.prog.info? 23).map (fun i => (i.zero, i.size, i.bytes)) = some (some (.slice none 0 0), 1, 24) := by kernel_rfl
set_option maxRecDepth 100000 in
theorem tU.info117 : (Try.prog.info? 117).map (fun i => (i.zero, i.size, i.bytes)) = some (some (.agg #[.int .i64 0, .int .i64 0, .int .i64 0, .slice none 0 0]), 4, 48) := by kernel_rfl
set_option maxHeartbeats 8000000 in
set_option maxRecDepth 100000 in
theorem store_Unpack.calls (k : Nat) (A0 : Option Addr) (c0 : Nat) (l0 : List Int) (r1 : List (S117)) (r2 : Int) (r3 : Int) (w : World) (hr0 : Kd.C (Kd.int .u8) w A0 l0.length l0) (hc0 : l0.length ≤ c0) (h : store_Unpack.f k l0 = some (r1, r2, r3)) :
    Calls Try.prog 24 #[.slice A0 l0.length c0] w fun e w' => ∃ v0_ : Value, e = .returned (.tuple #[.agg #[v0_, .int .i64 r2], .int .i64 r3]) ∧ Kd.R k117 117 w' w.heap.size (fun _ => True) v0_ r1 ∧ Below w.heap.size w w' := by
  have hu39 := Try.underlying39
  have hu115 := Try.underlying115
  have hu117 := Try.underlying117
  have hbig : l0.length ≤ 9223372036854775807 := hr0.2.1
  have HR0 := Aside0.mk hr0
  have HC0 := Aside0.mk hc0
  have BA := Aside0.mk (below_alloc (Below.refl w.heap.size w) (.cells #[.slice none 0 0, .int .i64 0] 39))
  have BX := Aside0.mk (heap_alloc_new w (.cells #[.slice none 0 0, .int .i64 0] 39))
  have q0 := (blk_cell BX.out 0).trans rfl
  have q1 := (blk_cell BX.out 1).trans rfl
  have f0 := blk_frozen BX.out 0
  unfold store_Unpack.f at h
  clear hr0 hc0
  by_cases c1 : l0.length > 4000
  · rw [if_pos c1] at h
    obtain ⟨rfl, rfl, rfl⟩ : r1 = [] ∧ r2 = 0 ∧ r3 = 1 := by simpa [eq_comm] using h
    clear h
    have c1t : (4000 < (l0.length : Int)) = True := eq_true (by omega)
    clear c1
    go_enter Try.func24, Try.ntmps24
    go_wp2
    exact bodyPost_ret (results_ct rfl _ _ w.heap.size 39 #[.slice none 0 0, .int .i64 0] (0, 0) _ rfl BX.out hu39 rfl rfl) rfl ⟨_, rfl, Kd.R_nil _ _ _ _ _, BA.out⟩
  rw [if_neg c1] at h
  have c1t : (4000 < (l0.length : Int)) = False := eq_false (by omega)
  by_cases c2 : l0.length < 4
  · rw [if_pos c2] at h
    obtain ⟨rfl, rfl, rfl⟩ : r1 = [] ∧ r2 = 0 ∧ r3 = 7 := by simpa [eq_comm] using h
    clear h
    have ew : IntKind.i64.wrap ((l0.length : Int) - 4) = (l0.length : Int) - 4 := by rw [i64_w, wrap64]; omega
    have c2t : ((l0.length : Int) - 4 < 0) = True := eq_true (by omega)
    clear c1 c2
    go_enter Try.func24, Try.ntmps24
    go_wp2
    refine start_ (n := 13) (S := (fun w' => Below w.heap.size w w' ∧ w'.heap[w.heap.size]? = some (.cells #[.slice none 0 0, .int .i64 0] 39 (0, 0)))) (ds := []) #[false, false, false, false, false, false, false, false, false, false, false, false, false] (by kernel_rfl) rfl rfl (⟨below_drew1 BA.out, BX.out⟩) (fun hHeld => ?_)
    refine take_ (i := 0) (N := some 16) (v := ?_) (a' := ?_) #[true, false, false, false, false, false, false, false, false, false, false, false, false] rfl rfl (by kernel_rfl) (fun _ _ _ h_ => h_) (Or.inl ⟨by rfl, ?_⟩) hHeld ?_ ?_
    rotate_left
    · intro w_ hSw
      (try dsimp only at hSw)
      go_simp
      first | done | with_reducible rfl
    rotate_left
    · simp only [Act.put, List.setIfInBounds_toArray, List.set_cons_zero, List.set_cons_succ]
      rfl
    refine take_ (i := 1) (N := some 17) (v := ?_) (a' := ?_) #[true, true, false, false, false, false, false, false, false, false, false, false, false] rfl rfl (by kernel_rfl) (fun _ _ _ h_ => h_) (Or.inl ⟨by rfl, ?_⟩) hHeld ?_ ?_
    rotate_left
    · intro w_ hSw
      (try dsimp only at hSw)
      go_simp
      first | done | with_reducible rfl
    rotate_left
    · simp only [Act.put, List.setIfInBounds_toArray, List.set_cons_zero, List.set_cons_succ]
      rfl
    refine take_ (i := 2) (N := some 18) (v := ?_) (a' := ?_) #[true, true, true, false, false, false, false, false, false, false, false, false, false] rfl rfl (by kernel_rfl) (fun _ _ _ h_ => h_) (Or.inl ⟨by rfl, ?_⟩) hHeld ?_ ?_
    rotate_left
    · intro w_ hSw
      (try dsimp only at hSw)
      go_simp
      first | done | with_reducible rfl
    rotate_left
    · simp only [Act.put, List.setIfInBounds_toArray, List.set_cons_zero, List.set_cons_succ]
      rfl
    refine take_ (i := 3) (N := some 19) (v := undef) (a' := ?_) #[true, true, true, true, false, false, false, false, false, false, false, false, false] rfl rfl (by kernel_rfl) (fun _ _ _ h_ => h_) (Or.inr ⟨by rfl, rfl⟩) hHeld ?_ ?_
    rotate_left
    · simp only [Act.put, List.setIfInBounds_toArray, List.set_cons_zero, List.set_cons_succ]
      rfl
    refine take_ (i := 4) (N := some 20) (v := undef) (a' := ?_) #[true, true, true, true, true, false, false, false, false, false, false, false, false] rfl rfl (by kernel_rfl) (fun _ _ _ h_ => h_) (Or.inr ⟨by rfl, rfl⟩) hHeld ?_ ?_
    rotate_left
    · simp only [Act.put, List.setIfInBounds_toArray, List.set_cons_zero, List.set_cons_succ]
      rfl
    refine take_ (i := 5) (N := some 21) (v := undef) (a' := ?_) #[true, true, true, true, true, true, false, false, false, false, false, false, false] rfl rfl (by kernel_rfl) (fun _ _ _ h_ => h_) (Or.inr ⟨by rfl, rfl⟩) hHeld ?_ ?_
    rotate_left
    · simp only [Act.put, List.setIfInBounds_toArray, List.set_cons_zero, List.set_cons_succ]
      rfl
    refine take_ (i := 6) (N := some 22) (v := undef) (a' := ?_) #[true, true, true, true, true, true, true, false, false, false, false, false, false] rfl rfl (by kernel_rfl) (fun _ _ _ h_ => h_) (Or.inr ⟨by rfl, rfl⟩) hHeld ?_ ?_
    rotate_left
    · simp only [Act.put, List.setIfInBounds_toArray, List.set_cons_zero, List.set_cons_succ]
      rfl
    refine take_ (i := 7) (N := some 23) (v := undef) (a' := ?_) #[true, true, true, true, true, true, true, true, false, false, false, false, false] rfl rfl (by kernel_rfl) (fun _ _ _ h_ => h_) (Or.inr ⟨by rfl, rfl⟩) hHeld ?_ ?_
    rotate_left
    · simp only [Act.put, List.setIfInBounds_toArray, List.set_cons_zero, List.set_cons_succ]
      rfl
    refine take_ (i := 8) (N := some 24) (v := undef) (a' := ?_) #[true, true, true, true, true, true, true, true, true, false, false, false, false] rfl rfl (by kernel_rfl) (fun _ _ _ h_ => h_) (Or.inr ⟨by rfl, rfl⟩) hHeld ?_ ?_
    rotate_left
    · simp only [Act.put, List.setIfInBounds_toArray, List.set_cons_zero, List.set_cons_succ]
      rfl
    refine take_ (i := 9) (N := some 25) (v := undef) (a' := ?_) #[true, true, true, true, true, true, true, true, true, true, false, false, false] rfl rfl (by kernel_rfl) (fun _ _ _ h_ => h_) (Or.inr ⟨by rfl, rfl⟩) hHeld ?_ ?_
    rotate_left
    · simp only [Act.put, List.setIfInBounds_toArray, List.set_cons_zero, List.set_cons_succ]
      rfl
    refine take_ (i := 10) (N := some 26) (v := undef) (a' := ?_) #[true, true, true, true, true, true, true, true, true, true, true, false, false] rfl rfl (by kernel_rfl) (fun _ _ _ h_ => h_) (Or.inr ⟨by rfl, rfl⟩) hHeld ?_ ?_
    rotate_left
    · simp only [Act.put, List.setIfInBounds_toArray, List.set_cons_zero, List.set_cons_succ]
      rfl
    refine take_ (i := 11) (N := some 27) (v := undef) (a' := ?_) #[true, true, true, true, true, true, true, true, true, true, true, true, false] rfl rfl (by kernel_rfl) (fun _ _ _ h_ => h_) (Or.inr ⟨by rfl, rfl⟩) hHeld ?_ ?_
    rotate_left
    · simp only [Act.put, List.setIfInBounds_toArray, List.set_cons_zero, List.set_cons_succ]
      rfl
    refine take_ (i := 12) (N := some 28) (v := ?_) (a' := ?_) #[true, true, true, true, true, true, true, true, true, true, true, true, true] rfl rfl (by kernel_rfl) (fun _ _ _ h_ => h_) (Or.inl ⟨by rfl, ?_⟩) hHeld ?_ ?_
    rotate_left
    · intro w_ hSw
      (try dsimp only at hSw)
      go_simp
      first | done | with_reducible rfl
    rotate_left
    · simp only [Act.put, List.setIfInBounds_toArray, List.set_cons_zero, List.set_cons_succ]
      rfl
    refine done_ (by kernel_rfl) ?_
    go_wp2
    exact bodyPost_ret (results_ct rfl _ _ w.heap.size 39 #[.slice none 0 0, .int .i64 0] (0, 0) _ rfl BX.out hu39 rfl rfl) rfl ⟨_, rfl, Kd.R_nil _ _ _ _ _, below_drew1 BA.out⟩
  rw [if_neg c2] at h
  obtain ⟨s, hs, h⟩ := Option.bind_eq_some_iff.mp h
  obtain ⟨e, he, h⟩ := Option.bind_eq_some_iff.mp h
  have SH := Aside0.mk hs
  have EH := Aside0.mk he
  have HH := Aside0.mk h
  clear h hs he
  have ew : IntKind.i64.wrap ((l0.length : Int) - 4) = (l0.length : Int) - 4 := by rw [i64_w, wrap64]; omega
  have c2t : ((l0.length : Int) - 4 < 0) = False := eq_false (by omega)
  have CT := Aside0.mk (Kd.C_take HR0.out (m := l0.length - 4) (by omega))
  obtain ⟨ad, rfl, _⟩ := Kd.at_int HR0.out 0 (by omega) (by omega)
  have hCD := Kd.C_drop (c := c0) HR0.out (m := l0.length - 4) (by omega) HC0.out
  rw [if_neg (by have := HC0.out; omega), show (Kd.int .u8).sz = 1 from rfl, Nat.mul_one] at hCD
  have CD := Aside0.mk hCD
  clear hCD
  have p7 : (4 ≤ (l0.length : Int)) = True := eq_true (by omega)
  have p8 : (c0 = l0.length - 4) = False := eq_false (by have := HC0.out; omega)
  have LE := Aside0.mk (show 4 ≤ l0.length from by omega)
  have p4 : ((l0.length : Int) - 4 ≤ (l0.length : Int)) = True := eq_true (by omega)
  have p5 : ((l0.length : Int) - 4 ≤ (c0 : Int)) = True := eq_true (by have := HC0.out; omega)
  have p6 : (0 ≤ (l0.length : Int) - 4) = True := eq_true (by omega)
  have n4 : ((l0.length : Int) - 4).toNat = l0.length - 4 := by omega
  have c0b : ((l0.length : Int) ≤ (c0 : Int)) = True := eq_true (by have := HC0.out; omega)
  clear c1 c2
  have ht : (l0.take (l0.length - 4)).length = l0.length - 4 := by rw [List.length_take]; omega
  have hd : (l0.drop (l0.length - 4)).length = l0.length - (l0.length - 4) := List.length_drop
  have C66 := Aside0.mk (show ∀ w', Below w.heap.size w w' → Calls Try.prog 66 #[.slice (some ad) (l0.length - 4) c0] w' fun e w'' => ∃ v0_ : Value, e = .returned (v0_) ∧ Kd.R (Kd.int .u8) 5 w'' w'.heap.size (fun _ => True) v0_ s ∧ Below w'.heap.size w' w'' from fun w' hb => by
    have := store_Sum.calls k (some ad) c0 (l0.take (l0.length - 4)) s w' (Kd.C_below CT.out hb) (by rw [ht]; have := HC0.out; omega) SH.out
    rwa [ht] at this)
  have C67 := Aside0.mk (show ∀ w' A5 d5, Below w.heap.size w w' → Kd.C (Kd.int .u8) w' A5 s.length s → s.length ≤ d5 → Calls Try.prog 67 #[.slice A5 s.length d5, .slice (some (ad.add (l0.length - 4))) (l0.length - (l0.length - 4)) (c0 - (l0.length - 4))] w' fun e1 w'' => e1 = .returned (.bool e) ∧ Drawn0 w' w'' from fun w' A5 d5 hb h1 h2 => by
    have := bytes_Equal.calls A5 d5 s _ (c0 - (l0.length - 4)) (l0.drop (l0.length - 4)) e w' h1 h2 (Kd.C_below CD.out hb) (by rw [hd]; have := HC0.out; omega) EH.out
    rwa [hd] at this)
  clear ht hd
  cases e
  · go_enter Try.func24, Try.ntmps24
    go_wp2
    refine start_ (n := 13) (S := (fun w' => Below w.heap.size w w' ∧ w'.heap[w.heap.size]? = some (.cells #[.slice none 0 0, .int .i64 0] 39 (0, 0)))) (ds := []) #[false, false, false, false, false, false, false, false, false, false, false, false, false] (by kernel_rfl) rfl rfl (⟨below_drew1 BA.out, BX.out⟩) (fun hHeld => ?_)
    refine take_ (i := 0) (N := some 16) (v := ?_) (a' := ?_) #[true, false, false, false, false, false, false, false, false, false, false, false, false] rfl rfl (by kernel_rfl) (fun _ _ _ h_ => h_) (Or.inl ⟨by rfl, ?_⟩) hHeld ?_ ?_
    rotate_left
    · intro w_ hSw
      (try dsimp only at hSw)
      go_simp
      first | done | with_reducible rfl
    rotate_left
    · simp only [Act.put, List.setIfInBounds_toArray, List.set_cons_zero, List.set_cons_succ]
      rfl
    refine take_ (i := 1) (N := some 17) (v := ?_) (a' := ?_) #[true, true, false, false, false, false, false, false, false, false, false, false, false] rfl rfl (by kernel_rfl) (fun _ _ _ h_ => h_) (Or.inl ⟨by rfl, ?_⟩) hHeld ?_ ?_
    rotate_left
    · intro w_ hSw
      (try dsimp only at hSw)
      go_simp
      first | done | with_reducible rfl
    rotate_left
    · simp only [Act.put, List.setIfInBounds_toArray, List.set_cons_zero, List.set_cons_succ]
      rfl
    refine take_ (i := 2) (N := some 18) (v := ?_) (a' := ?_) #[true, true, true, false, false, false, false, false, false, false, false, false, false] rfl rfl (by kernel_rfl) (fun _ _ _ h_ => h_) (Or.inl ⟨by rfl, ?_⟩) hHeld ?_ ?_
    rotate_left
    · intro w_ hSw
      (try dsimp only at hSw)
      go_simp
      first | done | with_reducible rfl
    rotate_left
    · simp only [Act.put, List.setIfInBounds_toArray, List.set_cons_zero, List.set_cons_succ]
      rfl
    refine take_ (i := 3) (N := some 19) (v := ?_) (a' := ?_) #[true, true, true, true, false, false, false, false, false, false, false, false, false] rfl rfl (by kernel_rfl) (fun _ _ _ h_ => h_) (Or.inl ⟨by rfl, ?_⟩) hHeld ?_ ?_
    rotate_left
    · intro w_ hSw
      (try dsimp only at hSw)
      go_simp
      first | done | with_reducible rfl
    rotate_left
    · simp only [Act.put, List.setIfInBounds_toArray, List.set_cons_zero, List.set_cons_succ]
      rfl
    refine take_ (i := 4) (N := some 20) (v := ?_) (a' := ?_) #[true, true, true, true, true, false, false, false, false, false, false, false, false] rfl rfl (by kernel_rfl) (fun _ _ _ h_ => h_) (Or.inl ⟨by rfl, ?_⟩) hHeld ?_ ?_
    rotate_left
    · intro w_ hSw
      (try dsimp only at hSw)
      go_simp
      first | done | with_reducible rfl
    rotate_left
    · simp only [Act.put, List.setIfInBounds_toArray, List.set_cons_zero, List.set_cons_succ]
      rfl
    refine take_ (i := 5) (N := some 21) (v := ?_) (a' := ?_) #[true, true, true, true, true, true, false, false, false, false, false, false, false] rfl rfl (by kernel_rfl) (fun _ _ _ h_ => h_) (Or.inl ⟨by rfl, ?_⟩) hHeld ?_ ?_
    rotate_left
    · intro w_ hSw
      (try dsimp only at hSw)
      go_simp
      first | done | with_reducible rfl
    rotate_left
    · simp only [Act.put, List.setIfInBounds_toArray, List.set_cons_zero, List.set_cons_succ]
      rfl
    refine take_ (i := 7) (N := some 23) (v := ?_) (a' := ?_) #[true, true, true, true, true, true, false, true, false, false, false, false, false] rfl rfl (by kernel_rfl) (fun _ _ _ h_ => h_) (Or.inl ⟨by rfl, ?_⟩) hHeld ?_ ?_
    rotate_left
    · intro w_ hSw
      (try dsimp only at hSw)
      go_simp
      first | done | with_reducible rfl
    rotate_left
    · simp only [Act.put, List.setIfInBounds_toArray, List.set_cons_zero, List.set_cons_succ]
      rfl
    refine take_ (i := 8) (N := some 24) (v := ?_) (a' := ?_) #[true, true, true, true, true, true, false, true, true, false, false, false, false] rfl rfl (by kernel_rfl) (fun _ _ _ h_ => h_) (Or.inl ⟨by rfl, ?_⟩) hHeld ?_ ?_
    rotate_left
    · intro w_ hSw
      (try dsimp only at hSw)
      go_simp
      first | done | with_reducible rfl
    rotate_left
    · simp only [Act.put, List.setIfInBounds_toArray, List.set_cons_zero, List.set_cons_succ]
      rfl
    refine take_ (i := 9) (N := some 25) (v := ?_) (a' := ?_) #[true, true, true, true, true, true, false, true, true, true, false, false, false] rfl rfl (by kernel_rfl) (fun _ _ _ h_ => h_) (Or.inl ⟨by rfl, ?_⟩) hHeld ?_ ?_
    rotate_left
    · intro w_ hSw
      (try dsimp only at hSw)
      go_simp
      first | done | with_reducible rfl
    rotate_left
    · simp only [Act.put, List.setIfInBounds_toArray, List.set_cons_zero, List.set_cons_succ]
      rfl
    refine one_ (i := 6) (N := some 22) #[true, true, true, true, true, true, true, true, true, true, false, false, false] rfl rfl (by kernel_rfl) (by decide) (fun K_ hK_ => ?_)
    go_simp
    (go_at_call 66; refine (C66.out _ hHeld.1).mono ?_; rintro e1 w5 ⟨v5, rfl, hr5, hb5⟩; obtain ⟨A5, d5, rfl⟩ := Kd.R_slice hr5; have B5 := Aside0.mk (And.intro (below_step hHeld.1 hb5) (blk_below hHeld.2 hb5)); have R5 := Aside0.mk hr5; clear hr5 hb5)
    refine hK_.out _ _ (B5.out) (fun hHeld => ?_)
    clear hK_ K_
    try (refine norm_ (by simp only [Act.put, List.setIfInBounds_toArray, List.set_cons_zero, List.set_cons_succ]; rfl) ?_)
    refine one_ (i := 10) (N := some 26) #[true, true, true, true, true, true, true, true, true, true, true, false, false] rfl rfl (by kernel_rfl) (by decide) (fun K_ hK_ => ?_)
    go_simp
    (go_at_call 67; refine (C67.out _ A5 d5 B5.out.1 (Kd.R_reads' R5.out).2.2 (Kd.R_reads' R5.out).2.1).mono ?_; rintro e1 w6 ⟨rfl, hd6⟩; have B6 := Aside0.mk (And.intro (below_step B5.out.1 hd6.below) (blk_below B5.out.2 hd6.below)); clear hd6)
    refine hK_.out _ _ (B6.out) (fun hHeld => ?_)
    clear hK_ K_
    try (refine norm_ (by simp only [Act.put, List.setIfInBounds_toArray, List.set_cons_zero, List.set_cons_succ]; rfl) ?_)
    refine take_ (i := 11) (N := some 27) (v := ?_) (a' := ?_) #[true, true, true, true, true, true, true, true, true, true, true, true, false] rfl rfl (by kernel_rfl) (fun _ _ _ h_ => h_) (Or.inl ⟨by rfl, ?_⟩) hHeld ?_ ?_
    rotate_left
    · intro w_ hSw
      (try dsimp only at hSw)
      go_simp
      first | done | with_reducible rfl
    rotate_left
    · simp only [Act.put, List.setIfInBounds_toArray, List.set_cons_zero, List.set_cons_succ]
      rfl
    refine take_ (i := 12) (N := some 28) (v := ?_) (a' := ?_) #[true, true, true, true, true, true, true, true, true, true, true, true, true] rfl rfl (by kernel_rfl) (fun _ _ _ h_ => h_) (Or.inl ⟨by rfl, ?_⟩) hHeld ?_ ?_
    rotate_left
    · intro w_ hSw
      (try dsimp only at hSw)
      go_simp
      first | done | with_reducible rfl
    rotate_left
    · simp only [Act.put, List.setIfInBounds_toArray, List.set_cons_zero, List.set_cons_succ]
      rfl
    refine done_ (by kernel_rfl) ?_
    clear q0 q1 f0 C66 C67 CT CD hHeld
    have q0 := (blk_cell B6.out.2 0).trans rfl
    have q1 := (blk_cell B6.out.2 1).trans rfl
    have f0 := blk_frozen B6.out.2 0
    have f1 := blk_frozen (blk_set B6.out.2 0 (.slice none 0 0)) 1
    have h := HH.out
    rw [if_neg (by decide)] at h
    obtain ⟨rfl, rfl, rfl⟩ : r1 = [] ∧ r2 = 0 ∧ r3 = 7 := by simpa [eq_comm] using h
    clear h HH
    go_wp2
    exact bodyPost_ret (results_ct rfl _ _ w.heap.size 39 #[.slice none 0 0, .int .i64 0] (0, 0) _ rfl (blk_set (blk_set B6.out.2 0 (.slice none 0 0)) 1 (.int .i64 0)) hu39 rfl rfl) rfl ⟨_, rfl, Kd.R_nil _ _ _ _ _, (B6.out.1.setCell (Nat.le_refl _) _).setCell (Nat.le_refl _) _⟩
  · have h := HH.out
    rw [if_pos rfl] at h
    replace HH := Aside0.mk h
    clear h
    go_enter Try.func24, Try.ntmps24
    go_wp2
    refine start_ (n := 13) (S := (fun w' => Below w.heap.size w w' ∧ w'.heap[w.heap.size]? = some (.cells #[.slice none 0 0, .int .i64 0] 39 (0, 0)))) (ds := []) #[false, false, false, false, false, false, false, false, false, false, false, false, false] (by kernel_rfl) rfl rfl (⟨below_drew1 BA.out, BX.out⟩) (fun hHeld => ?_)
    refine take_ (i := 0) (N := some 16) (v := ?_) (a' := ?_) #[true, false, false, false, false, false, false, false, false, false, false, false, false] rfl rfl (by kernel_rfl) (fun _ _ _ h_ => h_) (Or.inl ⟨by rfl, ?_⟩) hHeld ?_ ?_
    rotate_left
    · intro w_ hSw
      (try dsimp only at hSw)
      go_simp
      first | done | with_reducible rfl
    rotate_left
    · simp only [Act.put, List.setIfInBounds_toArray, List.set_cons_zero, List.set_cons_succ]
      rfl
    refine take_ (i := 1) (N := some 17) (v := ?_) (a' := ?_) #[true, true, false, false, false, false, false, false, false, false, false, false, false] rfl rfl (by kernel_rfl) (fun _ _ _ h_ => h_) (Or.inl ⟨by rfl, ?_⟩) hHeld ?_ ?_
    rotate_left
    · intro w_ hSw
      (try dsimp only at hSw)
      go_simp
      first | done | with_reducible rfl
    rotate_left
    · simp only [Act.put, List.setIfInBounds_toArray, List.set_cons_zero, List.set_cons_succ]
      rfl
    refine take_ (i := 2) (N := some 18) (v := ?_) (a' := ?_) #[true, true, true, false, false, false, false, false, false, false, false, false, false] rfl rfl (by kernel_rfl) (fun _ _ _ h_ => h_) (Or.inl ⟨by rfl, ?_⟩) hHeld ?_ ?_
    rotate_left
    · intro w_ hSw
      (try dsimp only at hSw)
      go_simp
      first | done | with_reducible rfl
    rotate_left
    · simp only [Act.put, List.setIfInBounds_toArray, List.set_cons_zero, List.set_cons_succ]
      rfl
    refine take_ (i := 3) (N := some 19) (v := ?_) (a' := ?_) #[true, true, true, true, false, false, false, false, false, false, false, false, false] rfl rfl (by kernel_rfl) (fun _ _ _ h_ => h_) (Or.inl ⟨by rfl, ?_⟩) hHeld ?_ ?_
    rotate_left
    · intro w_ hSw
      (try dsimp only at hSw)
      go_simp
      first | done | with_reducible rfl
    rotate_left
    · simp only [Act.put, List.setIfInBounds_toArray, List.set_cons_zero, List.set_cons_succ]
      rfl
    refine take_ (i := 4) (N := some 20) (v := ?_) (a' := ?_) #[true, true, true, true, true, false, false, false, false, false, false, false, false] rfl rfl (by kernel_rfl) (fun _ _ _ h_ => h_) (Or.inl ⟨by rfl, ?_⟩) hHeld ?_ ?_
    rotate_left
    · intro w_ hSw
      (try dsimp only at hSw)
      go_simp
      first | done | with_reducible rfl
    rotate_left
    · simp only [Act.put, List.setIfInBounds_toArray, List.set_cons_zero, List.set_cons_succ]
      rfl
    refine take_ (i := 5) (N := some 21) (v := ?_) (a' := ?_) #[true, true, true, true, true, true, false, false, false, false, false, false, false] rfl rfl (by kernel_rfl) (fun _ _ _ h_ => h_) (Or.inl ⟨by rfl, ?_⟩) hHeld ?_ ?_
    rotate_left
    · intro w_ hSw
      (try dsimp only at hSw)
      go_simp
      first | done | with_reducible rfl
    rotate_left
    · simp only [Act.put, List.setIfInBounds_toArray, List.set_cons_zero, List.set_cons_succ]
      rfl
    refine take_ (i := 7) (N := some 23) (v := ?_) (a' := ?_) #[true, true, true, true, true, true, false, true, false, false, false, false, false] rfl rfl (by kernel_rfl) (fun _ _ _ h_ => h_) (Or.inl ⟨by rfl, ?_⟩) hHeld ?_ ?_
    rotate_left
    · intro w_ hSw
      (try dsimp only at hSw)
      go_simp
      first | done | with_reducible rfl
    rotate_left
    · simp only [Act.put, List.setIfInBounds_toArray, List.set_cons_zero, List.set_cons_succ]
      rfl
    refine take_ (i := 8) (N := some 24) (v := ?_) (a' := ?_) #[true, true, true, true, true, true, false, true, true, false, false, false, false] rfl rfl (by kernel_rfl) (fun _ _ _ h_ => h_) (Or.inl ⟨by rfl, ?_⟩) hHeld ?_ ?_
    rotate_left
    · intro w_ hSw
      (try dsimp only at hSw)
      go_simp
      first | done | with_reducible rfl
    rotate_left
    · simp only [Act.put, List.setIfInBounds_toArray, List.set_cons_zero, List.set_cons_succ]
      rfl
    refine take_ (i := 9) (N := some 25) (v := ?_) (a' := ?_) #[true, true, true, true, true, true, false, true, true, true, false, false, false] rfl rfl (by kernel_rfl) (fun _ _ _ h_ => h_) (Or.inl ⟨by rfl, ?_⟩) hHeld ?_ ?_
    rotate_left
    · intro w_ hSw
      (try dsimp only at hSw)
      go_simp
      first | done | with_reducible rfl
    rotate_left
    · simp only [Act.put, List.setIfInBounds_toArray, List.set_cons_zero, List.set_cons_succ]
      rfl
    refine one_ (i := 6) (N := some 22) #[true, true, true, true, true, true, true, true, true, true, false, false, false] rfl rfl (by kernel_rfl) (by decide) (fun K_ hK_ => ?_)
    go_simp
    (go_at_call 66; refine (C66.out _ hHeld.1).mono ?_; rintro e1 w5 ⟨v5, rfl, hr5, hb5⟩; obtain ⟨A5, d5, rfl⟩ := Kd.R_slice hr5; have B5 := Aside0.mk (And.intro (below_step hHeld.1 hb5) (blk_below hHeld.2 hb5)); have R5 := Aside0.mk hr5; clear hr5 hb5)
    refine hK_.out _ _ (B5.out) (fun hHeld => ?_)
    clear hK_ K_
    try (refine norm_ (by simp only [Act.put, List.setIfInBounds_toArray, List.set_cons_zero, List.set_cons_succ]; rfl) ?_)
    refine one_ (i := 10) (N := some 26) #[true, true, true, true, true, true, true, true, true, true, true, false, false] rfl rfl (by kernel_rfl) (by decide) (fun K_ hK_ => ?_)
    go_simp
    (go_at_call 67; refine (C67.out _ A5 d5 B5.out.1 (Kd.R_reads' R5.out).2.2 (Kd.R_reads' R5.out).2.1).mono ?_; rintro e1 w6 ⟨rfl, hd6⟩; have B6 := Aside0.mk (And.intro (below_step B5.out.1 hd6.below) (blk_below B5.out.2 hd6.below)); clear hd6)
    refine hK_.out _ _ (B6.out) (fun hHeld => ?_)
    clear hK_ K_
    try (refine norm_ (by simp only [Act.put, List.setIfInBounds_toArray, List.set_cons_zero, List.set_cons_succ]; rfl) ?_)
    refine take_ (i := 11) (N := some 27) (v := ?_) (a' := ?_) #[true, true, true, true, true, true, true, true, true, true, true, true, false] rfl rfl (by kernel_rfl) (fun _ _ _ h_ => h_) (Or.inl ⟨by rfl, ?_⟩) hHeld ?_ ?_
    rotate_left
    · intro w_ hSw
      (try dsimp only at hSw)
      go_simp
      first | done | with_reducible rfl
    rotate_left
    · simp only [Act.put, List.setIfInBounds_toArray, List.set_cons_zero, List.set_cons_succ]
      rfl
    refine take_ (i := 12) (N := some 28) (v := ?_) (a' := ?_) #[true, true, true, true, true, true, true, true, true, true, true, true, true] rfl rfl (by kernel_rfl) (fun _ _ _ h_ => h_) (Or.inl ⟨by rfl, ?_⟩) hHeld ?_ ?_
    rotate_left
    · intro w_ hSw
      (try dsimp only at hSw)
      go_simp
      first | done | with_reducible rfl
    rotate_left
    · simp only [Act.put, List.setIfInBounds_toArray, List.set_cons_zero, List.set_cons_succ]
      rfl
    refine done_ (by kernel_rfl) ?_
    clear C66 C67 CD hHeld q0 q1 f0
    have hl4 : (l0.take (l0.length - 4)).length = l0.length - 4 := by rw [List.length_take]; omega
    obtain ⟨p, hp⟩ : ∃ p, w6.heap.size = p := ⟨_, rfl⟩
    have SV := Aside0.mk (show tR.Sv w p (some ad) c0 (l0.take (l0.length - 4)) false (w6.alloc (.cells #[.slice (some ad) (l0.length - 4) c0, .bool false] 115)) from ⟨below_alloc B6.out.1 _, hp ▸ below_size B6.out.1, by rw [hl4, ← hp]; exact heap_alloc_new w6 _, CT.out, by rw [hl4]; have := HC0.out; omega⟩)
    have XR := Aside0.mk (blk_alloc B6.out.2 (.cells #[.slice (some ad) (l0.length - 4) c0, .bool false] 115))
    have PB := Aside0.mk (show w.heap.size ≠ p from by have := blk_lt B6.out.2; omega)
    clear CT hl4
    go_wp2_with (go_at_call 68; (try rw [hp]); refine (tR.next_calls SV.out).mono ?_; rintro e1 w7 ⟨rfl, A7, c7, hs7, to7⟩; have S7 := Aside0.mk hs7; have T7 := Aside0.mk to7; clear hs7 to7; have XR7 := Aside0.mk ((T7.out.fr _ (blk_lt XR.out) PB.out).trans XR.out))
    have O8 := Aside0.mk (show tU.O w w.heap.size p w7.heap.size (tR.next (l0.take (l0.length - 4)) false).1 A7 c7 (tR.next (l0.take (l0.length - 4)) false).2.1 (tR.next (l0.take (l0.length - 4)) false).2.2 (.slice none 0 0) [] (w7.alloc (.cells #[.slice none 0 0, .int .i64 (tR.next (l0.take (l0.length - 4)) false).1] 39)) from ⟨⟨below_alloc S7.out.below _, S7.out.gp, blk_alloc S7.out.b _, S7.out.r, S7.out.hc⟩, Nat.le_refl _, below_size S7.out.below, PB.out, by have := blk_lt XR7.out; omega, by have := blk_lt S7.out.b; omega, blk_alloc XR7.out _, heap_alloc_new w7 _, Kd.R_nil _ _ _ _ _⟩)
    generalize w7.heap.size = bt at O8 ⊢
    have h := HH.out
    have HB := Aside0.mk h
    rw [tU.body] at h
    clear HH S7 T7 XR7
    generalize tR.next (l0.take (l0.length - 4)) false = nx at O8 h ⊢
    obtain ⟨root, xs1, bad1⟩ := nx
    dsimp only at O8 h ⊢
    obtain ⟨q, hq, hQ⟩ := Option.bind_eq_some_iff.mp h
    clear h
    have HQ := Aside0.mk hQ
    clear hQ HB
    have MC := Aside0.mk (tR.many_calls O8.out.rd)
    generalize tR.many xs1 bad1 = mn at hq MC
    obtain ⟨n, xs2, bad2⟩ := mn
    dsimp only at hq MC
    have HQ0 := Aside0.mk hq
    clear hq
    go_wp2_with (go_at_call 69; refine MC.out.mono ?_; rintro e1 w9 ⟨rfl, A9, c9, hs9, to9⟩; have O9 := Aside0.mk (O8.out.to hs9 to9); clear hs9 to9)
    clear MC O8 SV XR B6 B5 R5
    go_loopg [40] k (fun gg s40 wr => ∃ (i : Nat) (A : Option Addr) (c : Nat) (xs : List Int) (bad : Bool) (vsp : Value) (sp : List S117), s40 = .int .i64 (i : Int) ∧ Aside0 (tU.O w w.heap.size p bt root A c xs bad vsp sp wr) ∧ Aside0 (tR.spotsL gg i n sp xs bad = some q))
    case atStart => exact ⟨0, A9, c9, xs2, bad2, _, [], rfl, O9, HQ0⟩
    case round =>
      obtain ⟨i, A, c, xs, bad, vsp, sp, rfl, HO, HL⟩ := hrel
      cases gk with
      | zero => exact absurd HL.out (by rw [tR.spotsL]; exact fun e => by cases e)
      | succ g =>
      have hL := HL.out
      rw [tR.spotsL] at hL
      by_cases cn : (i : Int) < n
      · rw [if_pos cn] at hL
        by_cases cb : i < 100000 ∧ sp.length < 100000
        case neg => rw [if_neg cb] at hL; cases hL
        rw [if_pos cb] at hL
        have CB := Aside0.mk cb
        have cnt := eq_true cn
        have einc : IntKind.i64.wrap ((i : Int) + 1) = ((i + 1 : Nat) : Int) := by rw [i64_w]; unfold wrap64; omega
        clear cb cn HL HQ
        simp only [tR.four] at hL
        have N1 := Aside0.mk (tR.next_calls HO.out.rd)
        generalize tR.next xs bad = n1 at hL N1
        obtain ⟨a, xs1, bad1⟩ := n1
        dsimp only at hL N1
        generalize e2 : tR.next xs1 bad1 = n2 at hL
        obtain ⟨b, xs2, bad2⟩ := n2
        dsimp only at hL
        generalize e3 : tR.next xs2 bad2 = n3 at hL
        obtain ⟨d, xs3, bad3⟩ := n3
        dsimp only at hL
        generalize e4 : tR.many xs3 bad3 = n4 at hL
        obtain ⟨m, xs4, bad4⟩ := n4
        dsimp only at hL
        obtain ⟨pw, hpw, hL⟩ := Option.bind_eq_some_iff.mp hL
        have HL := Aside0.mk hL
        have HPW := Aside0.mk hpw
        have E2 := Aside0.mk e2
        have E3 := Aside0.mk e3
        have E4 := Aside0.mk e4
        clear hL hpw e2 e3 e4
        go_wp2_with (go_at_call 68; first
          | (refine N1.out.mono ?_; rintro e1 w1 ⟨rfl, A1, c1, hs1, to1⟩; have O1 := Aside0.mk (HO.out.to hs1 to1); have n2 := tR.next_calls O1.out.rd; rw [E2.out] at n2; have N2 := Aside0.mk n2; clear hs1 to1 n2 N1)
          | (refine N2.out.mono ?_; rintro e1 w2 ⟨rfl, A2, c2, hs2, to2⟩; have O2 := Aside0.mk (O1.out.to hs2 to2); have n3 := tR.next_calls O2.out.rd; rw [E3.out] at n3; have N3 := Aside0.mk n3; clear hs2 to2 n3 N2)
          | (refine N3.out.mono ?_; rintro e1 w3 ⟨rfl, A3, c3, hs3, to3⟩; have O3 := Aside0.mk (O2.out.to hs3 to3); clear hs3 to3 N3))
        have I4 := Aside0.mk (tU.O.inner O3.out a b d rfl)
        have n4 := tR.many_calls I4.out.rd
        rw [E4.out] at n4
        have N4 := Aside0.mk n4
        clear n4 O1 O2 O3 HO E2 E3 E4
        generalize w3.heap.size = bs at I4 ⊢
        go_wp2_with (go_at_call 69; refine N4.out.mono ?_; rintro e1 w4 ⟨rfl, A4, c4, hs4, to4⟩; have I5 := Aside0.mk (I4.out.to hs4 to4); clear hs4 to4)
        clear N4 I4
        go_loopg [51] g (fun g2 s51 wr => ∃ (j : Nat) (A : Option Addr) (c : Nat) (xs : List Int) (bad : Bool) (vw : Value) (ways : List (List Int)), s51 = .int .i64 (j : Int) ∧ Aside0 (tU.I w w.heap.size p bt bs root a b d A c xs bad vsp vw (.slice none 0 0) sp ways [] wr) ∧ Aside0 (tR.waysL g2 j m ways xs bad = some pw))
        case atStart => exact ⟨0, A4, c4, xs4, bad4, _, [], rfl, I5, HPW⟩
        case round =>
          obtain ⟨j, A, c, xs, bad, vw, ways, rfl, HI, HJ⟩ := hrel
          cases gk with
          | zero => exact absurd HJ.out (by rw [tR.waysL]; exact fun e => by cases e)
          | succ g2 =>
          have hJ := HJ.out
          rw [tR.waysL] at hJ
          by_cases cj : (j : Int) < m
          · rw [if_pos cj] at hJ
            by_cases cb : j < 100000 ∧ ways.length < 100000
            case neg => rw [if_neg cb] at hJ; cases hJ
            rw [if_pos cb] at hJ
            have CB2 := Aside0.mk cb
            have cjt := eq_true cj
            have ejnc : IntKind.i64.wrap ((j : Int) + 1) = ((j + 1 : Nat) : Int) := by rw [i64_w]; unfold wrap64; omega
            clear cb cj HJ
            have n6 := tR.many_calls HI.out.rd
            generalize tR.many xs bad = n4 at hJ n6
            obtain ⟨n, xs1, bad1⟩ := n4
            dsimp only at hJ n6
            have N6 := Aside0.mk n6
            obtain ⟨py, hpy, hJ⟩ := Option.bind_eq_some_iff.mp hJ
            have HPY := Aside0.mk hpy
            have HJ := Aside0.mk hJ
            clear hpy hJ n6
            go_wp2_with (go_at_call 69; refine N6.out.mono ?_; rintro e1 w6 ⟨rfl, A6, c6, hs6, to6⟩; have I7 := Aside0.mk (HI.out.to hs6 to6); clear hs6 to6)
            clear N6 HI
            go_loopg [8, 55] g2 (fun g3 s8 s55 wr => ∃ (l : Nat) (A : Option Addr) (c : Nat) (xs : List Int) (bad : Bool) (way : List Int), s55 = .int .i64 (l : Int) ∧ Aside0 (tU.I w w.heap.size p bt bs root a b d A c xs bad vsp vw s8 sp ways way wr) ∧ Aside0 (tR.wayL g3 l n way xs bad = some py))
            case atStart => exact ⟨0, A6, c6, xs1, bad1, [], rfl, I7, HPY⟩
            case round =>
              obtain ⟨l, A, c, xs, bad, way, rfl, HI, HY⟩ := hrel
              cases gk with
              | zero => exact absurd HY.out (by rw [tR.wayL]; exact fun e => by cases e)
              | succ g3 =>
              have hY := HY.out
              rw [tR.wayL] at hY
              by_cases cl : (l : Int) < n
              · rw [if_pos cl] at hY
                by_cases cb : l < 100000 ∧ way.length < 100000
                case neg => rw [if_neg cb] at hY; cases hY
                rw [if_pos cb] at hY
                have CB3 := Aside0.mk cb
                have clt := eq_true cl
                have elnc : IntKind.i64.wrap ((l : Int) + 1) = ((l + 1 : Nat) : Int) := by rw [i64_w]; unfold wrap64; omega
                clear cb cl HY
                have n8 := tR.next_calls HI.out.rd
                generalize tR.next xs bad = n4 at hY n8
                obtain ⟨x, xs2, bad2⟩ := n4
                dsimp only at hY n8
                have N8 := Aside0.mk n8
                have HY := Aside0.mk hY
                clear hY n8
                obtain ⟨Ay, cy, hvy⟩ := Kd.R_slice HI.out.ry
                subst hvy
                go_wp2_with (first
                  | (go_at_call 68; refine N8.out.mono ?_; rintro e1 w8 ⟨rfl, A8, c8, hs8, to8⟩; have I9 := Aside0.mk (HI.out.to hs8 to8); clear hs8 to8)
                  | ((with_reducible refine gate_builtin (b := .append) (xs := #[.tmp 57, .tmp 60]) rfl ?_); at_builtin; go_loud (refine Kd.R_append (Kd.int .i64) (w0 := w) w.heap.size rfl (.tmp 57) (.tmp 60) 23 3 (.int .i64 0) 8 rfl Try.underlying23 tU.info3 rfl (by decide) (by omega) (.slice Ay way.length cy) way x _ (tU.ok w.heap.size p bt bs) (fun _ => False) rfl rfl ?xm ?xo ?xf I9.out.ry I9.out.rd.below (below_size I9.out.rd.below) ?xl ?_); (case xm => rfl); (case xo => exact fun k hk => hk.elim); (case xf => exact I9.out.new); (case xl => (have := CB3.out; omega)); intro v1 w1' hr1 hb1 hg1 hat1; have I10 := Aside0.mk (I9.out.pushY hg1 hb1 hr1 hat1); clear hr1 hb1 hg1 hat1))
                go_roundg g3
                case measure => omega
                case rel => exact ⟨l + 1, _, _, _, _, _, rfl, I10, HY⟩
              · rw [if_neg cl] at hY
                have hpe := Option.some.inj hY
                subst hpe
                have clt := eq_false cl
                clear hY HY cl
                obtain ⟨Aw, cw, hvw⟩ := Kd.R_slice HI.out.rw
                subst hvw
                obtain ⟨Ay, cy, hvy⟩ := Kd.R_slice HI.out.ry
                subst hvy
                have q3 := (blk_cell HI.out.xb 3).trans rfl
                go_wp2_with (first
                  | ((with_reducible refine gate_builtin (b := .append) (xs := #[.tmp 64, .tmp 66]) rfl ?_); at_builtin; go_loud (refine Kd.R_append (Kd.slice 3 (Kd.int .i64)) (w0 := w) w.heap.size rfl (.tmp 64) (.tmp 66) 60 23 (.slice none 0 0) 24 rfl Try.underlying60 tU.info23 rfl (by decide) (by omega) (.slice Aw ways.length cw) ways way _ (tU.ok w.heap.size p bt bs) (fun k => tU.ok w.heap.size p bt bs k ∧ some k ≠ (Value.slice Aw ways.length cw).ownBlock) rfl rfl ?xm ?xo ?xf (Kd.R_mono HI.out.rw (fun _ hk => hk.1)) HI.out.rd.below (below_size HI.out.rd.below) ?xl ?_); (case xm => exact HI.out.wayM); (case xo => exact fun k hk => hk); (case xf => exact HI.out.new); (case xl => (have := CB2.out; omega)); intro v1 w1' hr1 hb1 hg1 hat1; (obtain ⟨B1, d1', ev⟩ := Kd.R_slice hr1); (have I11 := Aside0.mk (HI.out.pushW hg1 hb1 hr1 hat1)); have hq3 := blk_grown HI.out.xb hg1 (HI.out.away (fun k => k.2.2.2 rfl)).2.1; generalize (ways ++ [way]).length = ln at ev; subst ev; have hq4 := blk_frozen hq3 3; have hq5 := (blk_cell hq3 3).trans rfl; clear hr1 hb1 hg1 hat1 hq3 q3))
                go_roundg g2
                case measure => omega
                case rel => exact ⟨j + 1, _, _, _, _, _, _, rfl, I11, HJ⟩
          · rw [if_neg cj] at hJ
            have hpe := Option.some.inj hJ
            subst hpe
            have cjt := eq_false cj
            clear hJ HJ cj
            obtain ⟨At, ct, hvt⟩ := Kd.R_slice HI.out.rs
            subst hvt
            obtain ⟨Aw, cw, hvw⟩ := Kd.R_slice HI.out.rw
            subst hvw
            have q0 := (blk_cell HI.out.xb 0).trans rfl
            have q1 := (blk_cell HI.out.xb 1).trans rfl
            have q2 := (blk_cell HI.out.xb 2).trans rfl
            have q3 := (blk_cell HI.out.xb 3).trans rfl
            have q4 := (blk_cell HI.out.xt 0).trans rfl
            go_wp2_with (first
              | ((with_reducible refine gate_builtin (b := .append) (xs := #[.tmp 71, .tmp 73]) rfl ?_); at_builtin; go_loud (refine Kd.R_append k117 (w0 := w) w.heap.size rfl (.tmp 71) (.tmp 73) 37 117 (.agg #[.int .i64 0, .int .i64 0, .int .i64 0, .slice none 0 0]) 48 rfl Try.underlying37 tU.info117 rfl (by decide) (by omega) (.slice At sp.length ct) sp ⟨a, b, d, ways⟩ _ (tU.ok w.heap.size p bt bs) (fun k => tU.ok w.heap.size p bt bs k ∧ some k ≠ (Value.slice At sp.length ct).ownBlock) rfl rfl ?xm ?xo ?xf (Kd.R_mono HI.out.rs (fun _ hk => hk.1.1)) HI.out.rd.below (below_size HI.out.rd.below) ?xl ?_); (case xm => exact HI.out.spotM); (case xo => exact fun k hk => hk); (case xf => exact HI.out.new); (case xl => (have := CB.out; omega)); intro v1 w1' hr1 hb1 hg1 hat1; (obtain ⟨B1, d1', ev⟩ := Kd.R_slice hr1); (have O12 := Aside0.mk (HI.out.outer hg1 hb1 hr1)); have hq3 := blk_grown HI.out.xt hg1 (HI.out.away (fun k => k.2.2.1 rfl)).2.2; generalize (sp ++ [(⟨a, b, d, ways⟩ : S117)]).length = ln at ev; subst ev; have hq4 := blk_frozen hq3 0; have hq5 := (blk_cell hq3 0).trans rfl; clear hr1 hb1 hg1 hat1 hq3 q0 q1 q2 q3 q4))
            go_roundg g
            case measure => omega
            case rel => exact ⟨i + 1, _, _, _, _, _, _, rfl, O12, HL⟩
      · rw [if_neg cn] at hL
        have hq := Option.some.inj hL
        subst hq
        have cnt := eq_false cn
        clear hL HL cn
        obtain ⟨At, ct, rfl⟩ := Kd.R_slice HO.out.rs
        have q2 := (blk_cell HO.out.rd.b 0).trans rfl
        have q3 := (blk_cell HO.out.rd.b 1).trans rfl
        have q6 := (blk_cell HO.out.xr 0).trans rfl
        have q7 := (blk_cell HO.out.xr 1).trans rfl
        have q4 := (blk_cell HO.out.xt 0).trans rfl
        have q5 := (blk_cell HO.out.xt 1).trans rfl
        have f0 := blk_frozen HO.out.xr 0
        have f1 := blk_frozen (blk_set HO.out.xr 0 (.slice none 0 0)) 1
        cases bad
        · have hbg : xs.length ≤ 9223372036854775807 := HO.out.rd.r.2.1
          by_cases cx : 0 < xs.length
          · have h := HQ.out
            rw [if_pos (Or.inr cx)] at h
            obtain ⟨rfl, rfl, rfl⟩ : r1 = [] ∧ r2 = 0 ∧ r3 = 3 := by simpa [eq_comm] using h
            have cxt : (0 < (xs.length : Int)) = True := eq_true (by omega)
            have cxn : (0 < xs.length) = True := eq_true cx
            clear h HQ cx
            go_wp2
            exact bodyPost_ret (results_ct rfl _ _ w.heap.size 39 #[.slice none 0 0, .int .i64 0] (0, 0) _ rfl (blk_set (blk_set HO.out.xr 0 (.slice none 0 0)) 1 (.int .i64 0)) hu39 rfl rfl) rfl ⟨_, rfl, Kd.R_nil _ _ _ _ _, (HO.out.rd.below.setCell (Nat.le_refl _) _).setCell (Nat.le_refl _) _⟩
          · have h := HQ.out
            rw [if_neg (by intro e; rcases e with e | e; (· cases e); exact cx e)] at h
            obtain ⟨g2, hg2, h⟩ := Option.bind_eq_some_iff.mp h
            have HG := Aside0.mk hg2
            have cxt : (0 < (xs.length : Int)) = False := eq_false (by omega)
            have cxl : xs.length = 0 := by omega
            clear HQ hg2 cx
            cases g2
            · rw [if_neg (by decide)] at h
              obtain ⟨rfl, rfl, rfl⟩ : r1 = [] ∧ r2 = 0 ∧ r3 = 3 := by simpa [eq_comm] using h
              clear h
              go_wp2_with (go_at_call 62; refine (store_sound.calls k At ct _ _ false wr (Kd.R_reads' HO.out.rs).2.2 (Kd.R_reads' HO.out.rs).2.1 HG.out).mono ?_; rintro e1 w10 ⟨rfl, b10⟩; have X10 := Aside0.mk (blk_below HO.out.xr b10); have T10 := Aside0.mk (blk_below HO.out.xt b10); have R10 := Aside0.mk (Kd.R_below HO.out.rs b10); have B10 := Aside0.mk (below_step HO.out.rd.below b10); clear b10; clear q2 q3 q4 q5 q6 q7 f0 f1; have q4 := (blk_cell T10.out 0).trans rfl; have q5 := (blk_cell T10.out 1).trans rfl; have q6 := (blk_cell X10.out 0).trans rfl; have q7 := (blk_cell X10.out 1).trans rfl; have f0 := blk_frozen X10.out 0; have f1 := blk_frozen (blk_set X10.out 0 (.slice none 0 0)) 1)
              exact bodyPost_ret (results_ct rfl _ _ w.heap.size 39 #[.slice none 0 0, .int .i64 0] (0, 0) _ rfl (blk_set (blk_set X10.out 0 (.slice none 0 0)) 1 (.int .i64 0)) hu39 rfl rfl) rfl ⟨_, rfl, Kd.R_nil _ _ _ _ _, (B10.out.setCell (Nat.le_refl _) _).setCell (Nat.le_refl _) _⟩
            · rw [if_pos rfl] at h
              obtain ⟨rfl, rfl, rfl⟩ : r1 = sp ∧ r2 = root ∧ r3 = 0 := by simpa [eq_comm] using h
              clear h
              go_wp2_with (go_at_call 62; refine (store_sound.calls k At ct _ _ true wr (Kd.R_reads' HO.out.rs).2.2 (Kd.R_reads' HO.out.rs).2.1 HG.out).mono ?_; rintro e1 w10 ⟨rfl, b10⟩; have X10 := Aside0.mk (blk_below HO.out.xr b10); have T10 := Aside0.mk (blk_below HO.out.xt b10); have R10 := Aside0.mk (Kd.R_below HO.out.rs b10); have B10 := Aside0.mk (below_step HO.out.rd.below b10); clear b10; clear q2 q3 q4 q5 q6 q7 f0 f1; have q4 := (blk_cell T10.out 0).trans rfl; have q5 := (blk_cell T10.out 1).trans rfl; have q6 := (blk_cell X10.out 0).trans rfl; have q7 := (blk_cell X10.out 1).trans rfl; have f0 := blk_frozen X10.out 0; have f1 := blk_frozen (blk_set X10.out 0 (.slice At r1.length ct)) 1)
              exact bodyPost_ret (results_ct rfl _ _ w.heap.size 39 #[.slice At r1.length ct, .int .i64 r2] (0, 0) _ rfl (blk_set (blk_set X10.out 0 (.slice At r1.length ct)) 1 (.int .i64 r2)) hu39 rfl rfl) rfl ⟨_, rfl, Kd.R_mono (Kd.R_far (Kd.R_far R10.out (fun _ hk => hk.1) _) (fun _ hk => hk.1) _) (fun _ _ => trivial), (B10.out.setCell (Nat.le_refl _) _).setCell (Nat.le_refl _) _⟩
        · have h := HQ.out
          rw [if_pos (Or.inl rfl)] at h
          obtain ⟨rfl, rfl, rfl⟩ : r1 = [] ∧ r2 = 0 ∧ r3 = 3 := by simpa [eq_comm] using h
          clear h HQ
          go_wp2
          exact bodyPost_ret (results_ct rfl _ _ w.heap.size 39 #[.slice none 0 0, .int .i64 0] (0, 0) _ rfl (blk_set (blk_set HO.out.xr 0 (.slice none 0 0)) 1 (.int .i64 0)) hu39 rfl rfl) rfl ⟨_, rfl, Kd.R_nil _ _ _ _ _, (HO.out.rd.below.setCell (Nat.le_refl _) _).setCell (Nat.le_refl _) _⟩

end Go.Proofs.Ythgiiikjcfhgjaa.GK
