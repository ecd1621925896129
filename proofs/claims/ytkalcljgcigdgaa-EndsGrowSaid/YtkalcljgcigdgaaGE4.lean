-- Written by ext.py, a program of this session.
import Derived.Test.YtkalcljgcigdgaaGE0
import Derived.Test.YtkalcljgcigdgaaGE2
namespace Go.Proofs.Ytkalcljgcigdgaa.GE
open Go.RowKit Go.Proofs.YtkalcljgcigdgaaW.PrintWords Go.Proofs.YtkalcljgcigdgaaW.PrintLast Go.Proofs.YtkalcljgcigdgaaW.PrintMore
attribute [local go_sem] max2_int min2_int max_two min_two max_three min_three max_four min_four cellIs_set   -- for this text's walks alone
set_option linter.unusedVariables false
set_option linter.unusedSimpArgs false

/-! ### ends_Count: function 20 -/
def ends_Count.srch (p : Int → Bool) : Nat → Int → Int → Option Int
  | 0, _, _ => none
  | q + 1, i, j => if i < j then (if p ((i + j) / 2) = true then ends_Count.srch p q i ((i + j) / 2) else ends_Count.srch p q ((i + j) / 2 + 1) j) else some i
def ends_Count.cut (l0 l1 l : List Int) (h : Int) : List Int := (l0.drop (rd l h).toNat).take l1.length
def ends_Count.cmp (l0 l1 l : List Int) (h : Int) : Int := Lib.compareBytes (strOfNums (ends_Count.cut l0 l1 l h)).data.toList (strOfNums l1).data.toList
def ends_Count.f (k : Nat) (l0 : List Int) (l1 : List Int) : Option (Int × Int) := if l0.length > 60 then some (0, 1) else if l1.length > 60 then some (0, 1) else if l1.length = 0 then some (wrap64 ((l0.length : Int) + 1), 0) else
  (ends_order.f l0).bind fun l => (ends_Count.srch (fun h => decide (ends_Count.cmp l0 l1 l h ≥ 0)) k 0 (l.length : Int)).bind fun a => (ends_Count.srch (fun h => decide (ends_Count.cmp l0 l1 l h > 0)) k 0 (l.length : Int)).bind fun b => some (wrap64 (b - a), 0)
theorem ends_Count.srch_mono (p : Int → Bool) : ∀ k i j, LeO (ends_Count.srch p k i j) (ends_Count.srch p (k + 1) i j) := by
  intro k
  induction k with
  | zero => intro i j r h; rw [ends_Count.srch] at h; cases h
  | succ k ih =>
    intro i j
    rw [ends_Count.srch, ends_Count.srch]
    exact LeO.ite (LeO.ite (ih _ _) (ih _ _)) (LeO.refl _)
theorem ends_Count.mono : ∀ a0 a1 k, LeO (ends_Count.f k a0 a1) (ends_Count.f (k + 1) a0 a1) := by
  intro a0 a1 k
  unfold ends_Count.f
  exact LeO.ite (LeO.refl _) (LeO.ite (LeO.refl _) (LeO.ite (LeO.refl _) (LeO.bind (LeO.refl _) (fun l => LeO.bind (ends_Count.srch_mono _ _ _ _) (fun a => LeO.bind (ends_Count.srch_mono _ _ _ _) (fun b => LeO.refl _))))))
set_option maxRecDepth 100000 in
set_option maxHeartbeats 2000000 in
/-- sort.Search over a literal whose answers are told by p. -/
theorem ends_Count.search (g : Nat) (lb : Array Value) (eg : ∀ args w, (callFunc g args).run Try.prog w = .ok (.enter g args) w) (n : Nat) (hn : n ≤ 1000) (p : Int → Bool) (w : World)
    (hp : ∀ q (h : Int), 0 ≤ h → h < (n : Int) → Calls Try.prog g (#[.int .i64 h] ++ lb) (w.drewN q) fun e w' => e = .returned (.bool (p h)) ∧ ∃ q', w' = w.drewN q') (k : Nat) (r : Int) (hr : ends_Count.srch p k 0 (n : Int) = some r) :
    Calls Try.prog 49 #[.int .i64 (n : Int), .func (.func g) #[] lb] w fun e w' => e = .returned (.int .i64 r) ∧ ∃ q, w' = w.drewN q := by
  have HR := Aside0.mk hr
  have HP := Aside0.mk hp
  clear hr hp
  go_enter Try.func49, Try.ntmps49
  go_wp2
  go_loopg [5, 6] k (fun gg s5 s6 wr => ∃ (i j : Int) (q : Nat), s5 = .int .i64 i ∧ s6 = .int .i64 j ∧ wr = w.drewN q ∧ 0 ≤ i ∧ i ≤ (n : Int) ∧ 0 ≤ j ∧ j ≤ (n : Int) ∧ Aside0 (ends_Count.srch p gg i j = some r))
  case atStart => exact ⟨0, n, 0, rfl, rfl, rfl, by omega, by omega, by omega, by omega, HR⟩
  case round =>
    obtain ⟨i, j, q, rfl, rfl, rfl, i0, i1, j0, j1, HS⟩ := hrel
    cases gk with
    | zero => exact absurd HS.out (by rw [ends_Count.srch]; exact fun e => by cases e)
    | succ g2 =>
    have hS := HS.out
    rw [ends_Count.srch] at hS
    by_cases c : i < j
    · rw [if_pos c] at hS
      have ct := eq_true c
      have e1 : IntKind.i64.wrap (i + j) = i + j := by rw [i64_w, wrap64]; omega
      have e2 : IntKind.u64.wrap (i + j) = i + j := by rw [IntKind.wrap_u64]; omega
      have e3 : IntKind.i64.wrap ((i + j) / 2) = (i + j) / 2 := by rw [i64_w, wrap64]; omega
      have h0 : 0 ≤ (i + j) / 2 := by omega
      have h1 : (i + j) / 2 < (n : Int) := by omega
      have hcall := fun q => HP.out q ((i + j) / 2) h0 h1
      by_cases hh : p ((i + j) / 2) = true
      · rw [if_pos hh] at hS
        simp only [hh] at hcall
        have HS2 := Aside0.mk hS
        clear hS HS c hh
        go_wp2_with (first | (go_at_fn g; refine (hcall _).mono ?_; rintro e w' ⟨rfl, q', rfl⟩) | (refine (hcall _).mono ?_; rintro e w' ⟨rfl, q', rfl⟩))
        go_roundg g2
        case measure => omega
        case rel => exact ⟨i, (i + j) / 2, _, rfl, rfl, rfl, i0, i1, by omega, by omega, HS2⟩
      · rw [if_neg hh] at hS
        have hf : p ((i + j) / 2) = false := by simpa using hh
        simp only [hf] at hcall
        have HS2 := Aside0.mk hS
        have e4 : IntKind.i64.wrap ((i + j) / 2 + 1) = (i + j) / 2 + 1 := by rw [i64_w, wrap64]; omega
        clear hS HS c hh hf
        go_wp2_with (first | (go_at_fn g; refine (hcall _).mono ?_; rintro e w' ⟨rfl, q', rfl⟩) | (refine (hcall _).mono ?_; rintro e w' ⟨rfl, q', rfl⟩))
        go_roundg g2
        case measure => omega
        case rel => exact ⟨(i + j) / 2 + 1, j, _, rfl, rfl, rfl, by omega, by omega, j0, j1, HS2⟩
    · rw [if_neg c] at hS
      obtain rfl := Option.some.inj hS
      have ct := eq_false c
      clear hS HS c
      go_wp2
      go_ret
      exact ⟨rfl, _, rfl⟩
set_option maxRecDepth 100000 in
theorem ends_Count.info5 : (Try.prog.info? 5).map (fun i => (i.zero, i.size, i.bytes)) = some (some (.int .u8 0), 1, 1) := by kernel_rfl
/-- What the literals see. -/
structure ends_Count.St (b2 b6 b3 : Nat) (A Al Au : Option Addr) (c0 cl c1 : Nat) (l0 l l1 : List Int) (w : World) : Prop where
  hw : w.cell? ⟨b2, 0, none⟩ = some (.slice A l0.length c0)
  hr : Kd.C (Kd.int .u8) w A l0.length l0
  hc : l0.length ≤ c0
  hl : w.cell? ⟨b6, 0, none⟩ = some (.slice Al l.length cl)
  hrl : Kd.C (Kd.int .i64) w Al l.length l
  hu : w.cell? ⟨b3, 0, none⟩ = some (.slice Au l1.length c1)
  hru : Kd.C (Kd.int .u8) w Au l1.length l1
  hcu : l1.length ≤ c1
  in0 : ∀ h : Int, 0 ≤ h → h < (l.length : Int) → 0 ≤ rd l h ∧ rd l h ≤ (l0.length : Int)
  s0 : l0.length ≤ 60
  s1 : l1.length ≤ 60
set_option maxRecDepth 100000 in
theorem ends_Count.cut_len (l0 l1 l : List Int) (h : Int) : (ends_Count.cut l0 l1 l h).length = min l1.length (l0.length - (rd l h).toNat) := by
  unfold ends_Count.cut; rw [List.length_take, List.length_drop]
set_option maxRecDepth 100000 in
theorem ends_Count.St.drewN {b2 b6 b3 : Nat} {A Al Au : Option Addr} {c0 cl c1 : Nat} {l0 l l1 : List Int} {w : World} (s : ends_Count.St b2 b6 b3 A Al Au c0 cl c1 l0 l l1 w) (q : Nat) : ends_Count.St b2 b6 b3 A Al Au c0 cl c1 l0 l l1 (w.drewN q) :=
  ⟨s.hw, Kd.C_below s.hr (pw_below_drewN (Below.refl _ _) q), s.hc, s.hl, Kd.C_below s.hrl (pw_below_drewN (Below.refl _ _) q), s.hu, Kd.C_below s.hru (pw_below_drewN (Below.refl _ _) q), s.hcu, s.in0, s.s0, s.s1⟩
set_option maxRecDepth 100000 in
theorem ends_Count.cutC {b2 b6 b3 : Nat} {A Al Au : Option Addr} {c0 cl c1 : Nat} {l0 l l1 : List Int} {w : World} (s : ends_Count.St b2 b6 b3 A Al Au c0 cl c1 l0 l l1 w) (h : Int) (h0 : 0 ≤ h) (h1 : h < (l.length : Int)) :
    Kd.C (Kd.int .u8) w (if c0 = (rd l h).toNat then A else A.map (·.add ((rd l h).toNat * 1))) (ends_Count.cut l0 l1 l h).length (ends_Count.cut l0 l1 l h) := by
  have hx := s.in0 h h0 h1
  have hC := Kd.C_drop (c := c0) (m := (rd l h).toNat) s.hr (by omega) s.hc
  have e1 : (Kd.int .u8).sz = 1 := rfl
  rw [e1] at hC
  have hl : (l0.drop (rd l h).toNat).length = l0.length - (rd l h).toNat := List.length_drop
  have := Kd.C_take hC (m := min l1.length (l0.length - (rd l h).toNat)) (by omega)
  have e : (l0.drop (rd l h).toNat).take (min l1.length (l0.length - (rd l h).toNat)) = ends_Count.cut l0 l1 l h := by
    unfold ends_Count.cut
    rw [← hl, List.take_eq_take_iff]
    omega
  rwa [e] at this
set_option maxRecDepth 100000 in
set_option maxHeartbeats 4000000 in
theorem ends_Count.lit1 {b2 b6 b3 : Nat} {A Al Au : Option Addr} {c0 cl c1 : Nat} {l0 l l1 : List Int} {w : World} (s : ends_Count.St b2 b6 b3 A Al Au c0 cl c1 l0 l l1 w) (h : Int) (h0 : 0 ≤ h) (h1 : h < (l.length : Int)) :
    Calls Try.prog 48 #[.int .i64 h, .pointer (some ⟨b2, 0, none⟩), .pointer (some ⟨b6, 0, none⟩), .pointer (some ⟨b3, 0, none⟩)] w fun e w' => e = .returned (.slice (if c0 = (rd l h).toNat then A else A.map (·.add ((rd l h).toNat * 1))) (ends_Count.cut l0 l1 l h).length (c0 - (rd l h).toNat)) ∧ ∃ q, w' = w.drewN q := by
  have hx := s.in0 h h0 h1
  have hs0 := s.s0
  have hs1 := s.s1
  have hsz5 : ∀ i, Try.prog.info? 5 = some i → i.size = 1 := fun i h => by
    have := ends_Count.info5
    rw [h] at this
    simp at this
    exact this.2.1
  have ecut := ends_Count.cut_len l0 l1 l h
  obtain ⟨ad, hAl, y0⟩ := Kd.at_int s.hrl h h0 h1
  subst hAl
  have q2 := s.hw
  have q6 := s.hl
  have q3 := s.hu
  have SC := Aside0.mk s
  have hC0 := s.hc
  clear s
  obtain ⟨x, hxe⟩ : ∃ x, rd l h = x := ⟨_, rfl⟩
  rw [hxe] at hx y0 ecut ⊢
  obtain ⟨m, hm⟩ : ∃ m, (if (l0.length : Int) < x + (l1.length : Int) then (l0.length : Int) else x + (l1.length : Int)) = m := ⟨_, rfl⟩
  have hm2 : m = x + ((ends_Count.cut l0 l1 l h).length : Int) := by rw [ecut, ← hm]; split <;> omega
  generalize hcl : (ends_Count.cut l0 l1 l h).length = len at *
  have hcm := fun i hi => cut_mid (P := Try.prog) (i := i) 23 5 .i64 .i64 Try.underlying23 hi 1 (hsz5 i hi) A l0.length c0 x m hx.1 (by omega) (by omega) hC0
  have em : m.toNat - x.toNat = len := by omega
  simp only [em] at hcm
  obtain ⟨B, hB⟩ : ∃ B, (if c0 = x.toNat then A else A.map (·.add (x.toNat * 1))) = B := ⟨_, rfl⟩
  simp only [hB] at hcm
  have hB1 : (if c0 = x.toNat then A else A.map (·.add x.toNat)) = B := by rw [← hB, Nat.mul_one]
  rw [hB]
  have ew : IntKind.i64.wrap (x + (l1.length : Int)) = x + (l1.length : Int) := by rw [i64_w, wrap64]; omega
  have p0 : (0 ≤ h) = True := eq_true h0
  have p1 : (h < (l.length : Int)) = True := eq_true h1
  have p2 : (0 ≤ x) = True := eq_true hx.1
  have p3 : (x ≤ m) = True := eq_true (by omega)
  have p4 : (m ≤ (l0.length : Int)) = True := eq_true (by omega)
  have p5 : (m ≤ (c0 : Int)) = True := eq_true (by omega)
  have p6 : ((l0.length : Int) ≤ (c0 : Int)) = True := eq_true (by omega)
  have p7 : max m 0 = m := by omega
  have p8 : (0 ≤ m) = True := eq_true (by omega)
  have hxx := Aside0.mk hx
  clear hx ecut hm2 hs0 hs1 hC0 hB hxe hcl h0 h1
  go_enter Try.func48, Try.ntmps48
  go_wp2
  refine start_ (n := 17) (S := (fun w' => w'.cell? ⟨b2, 0, none⟩ = some (.slice A l0.length c0) ∧ w'.cell? ⟨b6, 0, none⟩ = some (.slice (some ad) l.length cl) ∧ w'.cell? ⟨b3, 0, none⟩ = some (.slice Au l1.length c1) ∧ w'.cell? (ad.add h.toNat) = some (.int .i64 x))) (ds := []) #[false, false, false, false, false, false, false, false, false, false, false, false, false, false, false, false, false] (by kernel_rfl) rfl rfl (⟨q2, q6, q3, y0⟩) (fun hHeld => ?_)
  refine take_ (i := 0) (N := some 6) (v := ?_) (a' := ?_) #[true, false, false, false, false, false, false, false, false, false, false, false, false, false, false, false, false] rfl rfl (by kernel_rfl) (fun _ _ _ h_ => h_) (Or.inl ⟨by rfl, ?_⟩) hHeld ?_ ?_
  rotate_left
  · intro w_ hSw
    (obtain ⟨hz0, hz1, hz2, hz3⟩ := hSw)
    go_simp
    first | done | with_reducible rfl
  rotate_left
  · simp only [Act.put, List.setIfInBounds_toArray, List.set_cons_zero, List.set_cons_succ]
    rfl
  refine take_ (i := 1) (N := some 7) (v := ?_) (a' := ?_) #[true, true, false, false, false, false, false, false, false, false, false, false, false, false, false, false, false] rfl rfl (by kernel_rfl) (fun _ _ _ h_ => h_) (Or.inl ⟨by rfl, ?_⟩) hHeld ?_ ?_
  rotate_left
  · intro w_ hSw
    (obtain ⟨hz0, hz1, hz2, hz3⟩ := hSw)
    go_simp
    first | done | with_reducible rfl
  rotate_left
  · simp only [Act.put, List.setIfInBounds_toArray, List.set_cons_zero, List.set_cons_succ]
    rfl
  refine take_ (i := 2) (N := some 8) (v := ?_) (a' := ?_) #[true, true, true, false, false, false, false, false, false, false, false, false, false, false, false, false, false] rfl rfl (by kernel_rfl) (fun _ _ _ h_ => h_) (Or.inl ⟨by rfl, ?_⟩) hHeld ?_ ?_
  rotate_left
  · intro w_ hSw
    (obtain ⟨hz0, hz1, hz2, hz3⟩ := hSw)
    go_simp
    first | done | with_reducible rfl
  rotate_left
  · simp only [Act.put, List.setIfInBounds_toArray, List.set_cons_zero, List.set_cons_succ]
    rfl
  refine take_ (i := 3) (N := some 9) (v := ?_) (a' := ?_) #[true, true, true, true, false, false, false, false, false, false, false, false, false, false, false, false, false] rfl rfl (by kernel_rfl) (fun _ _ _ h_ => h_) (Or.inl ⟨by rfl, ?_⟩) hHeld ?_ ?_
  rotate_left
  · intro w_ hSw
    (obtain ⟨hz0, hz1, hz2, hz3⟩ := hSw)
    go_simp
    first | done | with_reducible rfl
  rotate_left
  · simp only [Act.put, List.setIfInBounds_toArray, List.set_cons_zero, List.set_cons_succ]
    rfl
  refine take_ (i := 4) (N := some 10) (v := ?_) (a' := ?_) #[true, true, true, true, true, false, false, false, false, false, false, false, false, false, false, false, false] rfl rfl (by kernel_rfl) (fun _ _ _ h_ => h_) (Or.inl ⟨by rfl, ?_⟩) hHeld ?_ ?_
  rotate_left
  · intro w_ hSw
    (obtain ⟨hz0, hz1, hz2, hz3⟩ := hSw)
    go_simp
    first | done | with_reducible rfl
  rotate_left
  · simp only [Act.put, List.setIfInBounds_toArray, List.set_cons_zero, List.set_cons_succ]
    rfl
  refine take_ (i := 5) (N := some 11) (v := ?_) (a' := ?_) #[true, true, true, true, true, true, false, false, false, false, false, false, false, false, false, false, false] rfl rfl (by kernel_rfl) (fun _ _ _ h_ => h_) (Or.inl ⟨by rfl, ?_⟩) hHeld ?_ ?_
  rotate_left
  · intro w_ hSw
    (obtain ⟨hz0, hz1, hz2, hz3⟩ := hSw)
    go_simp
    first | done | with_reducible rfl
  rotate_left
  · simp only [Act.put, List.setIfInBounds_toArray, List.set_cons_zero, List.set_cons_succ]
    rfl
  refine take_ (i := 6) (N := some 12) (v := ?_) (a' := ?_) #[true, true, true, true, true, true, true, false, false, false, false, false, false, false, false, false, false] rfl rfl (by kernel_rfl) (fun _ _ _ h_ => h_) (Or.inl ⟨by rfl, ?_⟩) hHeld ?_ ?_
  rotate_left
  · intro w_ hSw
    (obtain ⟨hz0, hz1, hz2, hz3⟩ := hSw)
    go_simp
    first | done | with_reducible rfl
  rotate_left
  · simp only [Act.put, List.setIfInBounds_toArray, List.set_cons_zero, List.set_cons_succ]
    rfl
  refine take_ (i := 7) (N := some 13) (v := ?_) (a' := ?_) #[true, true, true, true, true, true, true, true, false, false, false, false, false, false, false, false, false] rfl rfl (by kernel_rfl) (fun _ _ _ h_ => h_) (Or.inl ⟨by rfl, ?_⟩) hHeld ?_ ?_
  rotate_left
  · intro w_ hSw
    (obtain ⟨hz0, hz1, hz2, hz3⟩ := hSw)
    go_simp
    first | done | with_reducible rfl
  rotate_left
  · simp only [Act.put, List.setIfInBounds_toArray, List.set_cons_zero, List.set_cons_succ]
    rfl
  refine take_ (i := 8) (N := some 14) (v := ?_) (a' := ?_) #[true, true, true, true, true, true, true, true, true, false, false, false, false, false, false, false, false] rfl rfl (by kernel_rfl) (fun _ _ _ h_ => h_) (Or.inl ⟨by rfl, ?_⟩) hHeld ?_ ?_
  rotate_left
  · intro w_ hSw
    (obtain ⟨hz0, hz1, hz2, hz3⟩ := hSw)
    go_simp
    first | done | with_reducible rfl
  rotate_left
  · simp only [Act.put, List.setIfInBounds_toArray, List.set_cons_zero, List.set_cons_succ]
    rfl
  refine take_ (i := 9) (N := some 15) (v := ?_) (a' := ?_) #[true, true, true, true, true, true, true, true, true, true, false, false, false, false, false, false, false] rfl rfl (by kernel_rfl) (fun _ _ _ h_ => h_) (Or.inl ⟨by rfl, ?_⟩) hHeld ?_ ?_
  rotate_left
  · intro w_ hSw
    (obtain ⟨hz0, hz1, hz2, hz3⟩ := hSw)
    go_simp
    first | done | with_reducible rfl
  rotate_left
  · simp only [Act.put, List.setIfInBounds_toArray, List.set_cons_zero, List.set_cons_succ]
    rfl
  refine take_ (i := 10) (N := some 16) (v := ?_) (a' := ?_) #[true, true, true, true, true, true, true, true, true, true, true, false, false, false, false, false, false] rfl rfl (by kernel_rfl) (fun _ _ _ h_ => h_) (Or.inl ⟨by rfl, ?_⟩) hHeld ?_ ?_
  rotate_left
  · intro w_ hSw
    (obtain ⟨hz0, hz1, hz2, hz3⟩ := hSw)
    go_simp
    first | done | with_reducible rfl
  rotate_left
  · simp only [Act.put, List.setIfInBounds_toArray, List.set_cons_zero, List.set_cons_succ]
    rfl
  refine take_ (i := 11) (N := some 17) (v := ?_) (a' := ?_) #[true, true, true, true, true, true, true, true, true, true, true, true, false, false, false, false, false] rfl rfl (by kernel_rfl) (fun _ _ _ h_ => h_) (Or.inl ⟨by rfl, ?_⟩) hHeld ?_ ?_
  rotate_left
  · intro w_ hSw
    (obtain ⟨hz0, hz1, hz2, hz3⟩ := hSw)
    go_simp
    first | done | with_reducible rfl
  rotate_left
  · simp only [Act.put, List.setIfInBounds_toArray, List.set_cons_zero, List.set_cons_succ]
    rfl
  refine take_ (i := 12) (N := some 18) (v := ?_) (a' := ?_) #[true, true, true, true, true, true, true, true, true, true, true, true, true, false, false, false, false] rfl rfl (by kernel_rfl) (fun _ _ _ h_ => h_) (Or.inl ⟨by rfl, ?_⟩) hHeld ?_ ?_
  rotate_left
  · intro w_ hSw
    (obtain ⟨hz0, hz1, hz2, hz3⟩ := hSw)
    go_simp
    first | done | with_reducible rfl
  rotate_left
  · simp only [Act.put, List.setIfInBounds_toArray, List.set_cons_zero, List.set_cons_succ]
    rfl
  refine take_ (i := 13) (N := some 19) (v := ?_) (a' := ?_) #[true, true, true, true, true, true, true, true, true, true, true, true, true, true, false, false, false] rfl rfl (by kernel_rfl) (fun _ _ _ h_ => h_) (Or.inl ⟨by rfl, ?_⟩) hHeld ?_ ?_
  rotate_left
  · intro w_ hSw
    (obtain ⟨hz0, hz1, hz2, hz3⟩ := hSw)
    go_simp
    first | done | with_reducible rfl
  rotate_left
  · simp only [Act.put, List.setIfInBounds_toArray, List.set_cons_zero, List.set_cons_succ]
    rfl
  refine take_ (i := 14) (N := some 20) (v := ?_) (a' := ?_) #[true, true, true, true, true, true, true, true, true, true, true, true, true, true, true, false, false] rfl rfl (by kernel_rfl) (fun _ _ _ h_ => h_) (Or.inl ⟨by rfl, ?_⟩) hHeld ?_ ?_
  rotate_left
  · intro w_ hSw
    (obtain ⟨hz0, hz1, hz2, hz3⟩ := hSw)
    go_simp
    first | done | with_reducible rfl
  rotate_left
  · simp only [Act.put, List.setIfInBounds_toArray, List.set_cons_zero, List.set_cons_succ]
    rfl
  refine take_ (i := 15) (N := some 21) (v := ?_) (a' := ?_) #[true, true, true, true, true, true, true, true, true, true, true, true, true, true, true, true, false] rfl rfl (by kernel_rfl) (fun _ _ _ h_ => h_) (Or.inl ⟨by rfl, ?_⟩) hHeld ?_ ?_
  rotate_left
  · intro w_ hSw
    (obtain ⟨hz0, hz1, hz2, hz3⟩ := hSw)
    go_simp
    first | done | with_reducible rfl
  rotate_left
  · simp only [Act.put, List.setIfInBounds_toArray, List.set_cons_zero, List.set_cons_succ]
    rfl
  refine take_ (i := 16) (N := some 5) (v := ?_) (a' := ?_) #[true, true, true, true, true, true, true, true, true, true, true, true, true, true, true, true, true] rfl rfl (by kernel_rfl) (fun _ _ _ h_ => h_) (Or.inl ⟨by rfl, ?_⟩) hHeld ?_ ?_
  rotate_left
  · intro w_ hSw
    (obtain ⟨hz0, hz1, hz2, hz3⟩ := hSw)
    go_simp
    first | done | with_reducible rfl
  rotate_left
  · simp only [Act.put, List.setIfInBounds_toArray, List.set_cons_zero, List.set_cons_succ]
    rfl
  refine done_ (by kernel_rfl) ?_
  go_wp2
  go_ret
  exact ⟨rfl, 1, rfl⟩
set_option maxRecDepth 100000 in
set_option maxHeartbeats 4000000 in
theorem ends_Count.lit2 {b2 b6 b3 b7 : Nat} {A Al Au : Option Addr} {c0 cl c1 : Nat} {l0 l l1 : List Int} {w : World} (s : ends_Count.St b2 b6 b3 A Al Au c0 cl c1 l0 l l1 w) (hf : w.cell? ⟨b7, 0, none⟩ = some (.func (.func 48) #[] #[.pointer (some ⟨b2, 0, none⟩), .pointer (some ⟨b6, 0, none⟩), .pointer (some ⟨b3, 0, none⟩)])) (h : Int) (h0 : 0 ≤ h) (h1 : h < (l.length : Int)) :
    Calls Try.prog 50 #[.int .i64 h, .pointer (some ⟨b7, 0, none⟩), .pointer (some ⟨b3, 0, none⟩)] w fun e w' => e = .returned (.bool (decide (ends_Count.cmp l0 l1 l h ≥ 0))) ∧ ∃ q, w' = w.drewN q := by
  have q3 := s.hu
  have L1 := Aside0.mk (fun q => ends_Count.lit1 (s.drewN q) h h0 h1)
  have B1 := Aside0.mk (fun q => ends_order.bc.calls _ (c0 - (rd l h).toNat) (ends_Count.cut l0 l1 l h) Au c1 l1 (ends_Count.cmp l0 l1 l h) (w.drewN q) (ends_Count.cutC (s.drewN q) h h0 h1) (by
    have := s.in0 h h0 h1
    have := s.hc
    rw [ends_Count.cut_len]; omega) (s.drewN q).hru s.hcu rfl)
  generalize (if c0 = (rd l h).toNat then A else A.map (·.add ((rd l h).toNat * 1))) = B at L1 B1
  generalize ends_Count.cmp l0 l1 l h = cm at *
  clear s h0 h1
  go_enter Try.func50, Try.ntmps50
  go_wp2
  refine start_ (n := 7) (S := (fun w' => w'.cell? ⟨b7, 0, none⟩ = some (.func (.func 48) #[] #[.pointer (some ⟨b2, 0, none⟩), .pointer (some ⟨b6, 0, none⟩), .pointer (some ⟨b3, 0, none⟩)]) ∧ w'.cell? ⟨b3, 0, none⟩ = some (.slice Au l1.length c1))) (ds := []) #[false, false, false, false, false, false, false] (by kernel_rfl) rfl rfl (⟨hf, q3⟩) (fun hHeld => ?_)
  refine take_ (i := 0) (N := some 5) (v := ?_) (a' := ?_) #[true, false, false, false, false, false, false] rfl rfl (by kernel_rfl) (fun _ _ _ h_ => h_) (Or.inl ⟨by rfl, ?_⟩) hHeld ?_ ?_
  rotate_left
  · intro w_ hSw
    (obtain ⟨hz0, hz1⟩ := hSw)
    go_simp
    first | done | with_reducible rfl
  rotate_left
  · simp only [Act.put, List.setIfInBounds_toArray, List.set_cons_zero, List.set_cons_succ]
    rfl
  refine take_ (i := 1) (N := some 6) (v := ?_) (a' := ?_) #[true, true, false, false, false, false, false] rfl rfl (by kernel_rfl) (fun _ _ _ h_ => h_) (Or.inl ⟨by rfl, ?_⟩) hHeld ?_ ?_
  rotate_left
  · intro w_ hSw
    (obtain ⟨hz0, hz1⟩ := hSw)
    go_simp
    first | done | with_reducible rfl
  rotate_left
  · simp only [Act.put, List.setIfInBounds_toArray, List.set_cons_zero, List.set_cons_succ]
    rfl
  refine take_ (i := 3) (N := some 8) (v := ?_) (a' := ?_) #[true, true, false, true, false, false, false] rfl rfl (by kernel_rfl) (fun _ _ _ h_ => h_) (Or.inl ⟨by rfl, ?_⟩) hHeld ?_ ?_
  rotate_left
  · intro w_ hSw
    (obtain ⟨hz0, hz1⟩ := hSw)
    go_simp
    first | done | with_reducible rfl
  rotate_left
  · simp only [Act.put, List.setIfInBounds_toArray, List.set_cons_zero, List.set_cons_succ]
    rfl
  refine one_ (i := 2) (N := some 7) #[true, true, true, true, false, false, false] rfl rfl (by kernel_rfl) (by decide) (fun K_ hK_ => ?_)
  go_simp
  (go_at_call 48; refine (L1.out _).mono ?_; rintro e w5 ⟨rfl, hd⟩; obtain ⟨m5, rfl⟩ := hd)
  refine hK_.out _ _ (⟨hf, q3⟩) (fun hHeld => ?_)
  clear hK_ K_
  try (refine norm_ (by simp only [Act.put, List.setIfInBounds_toArray, List.set_cons_zero, List.set_cons_succ]; rfl) ?_)
  refine one_ (i := 4) (N := some 9) #[true, true, true, true, true, false, false] rfl rfl (by kernel_rfl) (by decide) (fun K_ hK_ => ?_)
  go_simp
  (go_at_call 51; refine (B1.out _).mono ?_; rintro e w6 ⟨rfl, hd⟩; obtain ⟨m6, rfl⟩ := hd)
  refine hK_.out _ _ (⟨hf, q3⟩) (fun hHeld => ?_)
  clear hK_ K_
  try (refine norm_ (by simp only [Act.put, List.setIfInBounds_toArray, List.set_cons_zero, List.set_cons_succ]; rfl) ?_)
  refine take_ (i := 5) (N := some 10) (v := ?_) (a' := ?_) #[true, true, true, true, true, true, false] rfl rfl (by kernel_rfl) (fun _ _ _ h_ => h_) (Or.inl ⟨by rfl, ?_⟩) hHeld ?_ ?_
  rotate_left
  · intro w_ hSw
    (obtain ⟨hz0, hz1⟩ := hSw)
    go_simp
    first | done | with_reducible rfl
  rotate_left
  · simp only [Act.put, List.setIfInBounds_toArray, List.set_cons_zero, List.set_cons_succ]
    rfl
  refine take_ (i := 6) (N := some 4) (v := ?_) (a' := ?_) #[true, true, true, true, true, true, true] rfl rfl (by kernel_rfl) (fun _ _ _ h_ => h_) (Or.inl ⟨by rfl, ?_⟩) hHeld ?_ ?_
  rotate_left
  · intro w_ hSw
    (obtain ⟨hz0, hz1⟩ := hSw)
    go_simp
    first | done | with_reducible rfl
  rotate_left
  · simp only [Act.put, List.setIfInBounds_toArray, List.set_cons_zero, List.set_cons_succ]
    rfl
  refine done_ (by kernel_rfl) ?_
  go_wp2
  go_ret
  exact ⟨rfl, _, World.drewN_drewN ..⟩
set_option maxRecDepth 100000 in
set_option maxHeartbeats 4000000 in
theorem ends_Count.lit3 {b2 b6 b3 b7 : Nat} {A Al Au : Option Addr} {c0 cl c1 : Nat} {l0 l l1 : List Int} {w : World} (s : ends_Count.St b2 b6 b3 A Al Au c0 cl c1 l0 l l1 w) (hf : w.cell? ⟨b7, 0, none⟩ = some (.func (.func 48) #[] #[.pointer (some ⟨b2, 0, none⟩), .pointer (some ⟨b6, 0, none⟩), .pointer (some ⟨b3, 0, none⟩)])) (h : Int) (h0 : 0 ≤ h) (h1 : h < (l.length : Int)) :
    Calls Try.prog 52 #[.int .i64 h, .pointer (some ⟨b7, 0, none⟩), .pointer (some ⟨b3, 0, none⟩)] w fun e w' => e = .returned (.bool (decide (ends_Count.cmp l0 l1 l h > 0))) ∧ ∃ q, w' = w.drewN q := by
  have q3 := s.hu
  have L1 := Aside0.mk (fun q => ends_Count.lit1 (s.drewN q) h h0 h1)
  have B1 := Aside0.mk (fun q => ends_order.bc.calls _ (c0 - (rd l h).toNat) (ends_Count.cut l0 l1 l h) Au c1 l1 (ends_Count.cmp l0 l1 l h) (w.drewN q) (ends_Count.cutC (s.drewN q) h h0 h1) (by
    have := s.in0 h h0 h1
    have := s.hc
    rw [ends_Count.cut_len]; omega) (s.drewN q).hru s.hcu rfl)
  generalize (if c0 = (rd l h).toNat then A else A.map (·.add ((rd l h).toNat * 1))) = B at L1 B1
  generalize ends_Count.cmp l0 l1 l h = cm at *
  clear s h0 h1
  go_enter Try.func52, Try.ntmps52
  go_wp2
  refine start_ (n := 7) (S := (fun w' => w'.cell? ⟨b7, 0, none⟩ = some (.func (.func 48) #[] #[.pointer (some ⟨b2, 0, none⟩), .pointer (some ⟨b6, 0, none⟩), .pointer (some ⟨b3, 0, none⟩)]) ∧ w'.cell? ⟨b3, 0, none⟩ = some (.slice Au l1.length c1))) (ds := []) #[false, false, false, false, false, false, false] (by kernel_rfl) rfl rfl (⟨hf, q3⟩) (fun hHeld => ?_)
  refine take_ (i := 0) (N := some 5) (v := ?_) (a' := ?_) #[true, false, false, false, false, false, false] rfl rfl (by kernel_rfl) (fun _ _ _ h_ => h_) (Or.inl ⟨by rfl, ?_⟩) hHeld ?_ ?_
  rotate_left
  · intro w_ hSw
    (obtain ⟨hz0, hz1⟩ := hSw)
    go_simp
    first | done | with_reducible rfl
  rotate_left
  · simp only [Act.put, List.setIfInBounds_toArray, List.set_cons_zero, List.set_cons_succ]
    rfl
  refine take_ (i := 1) (N := some 6) (v := ?_) (a' := ?_) #[true, true, false, false, false, false, false] rfl rfl (by kernel_rfl) (fun _ _ _ h_ => h_) (Or.inl ⟨by rfl, ?_⟩) hHeld ?_ ?_
  rotate_left
  · intro w_ hSw
    (obtain ⟨hz0, hz1⟩ := hSw)
    go_simp
    first | done | with_reducible rfl
  rotate_left
  · simp only [Act.put, List.setIfInBounds_toArray, List.set_cons_zero, List.set_cons_succ]
    rfl
  refine take_ (i := 3) (N := some 8) (v := ?_) (a' := ?_) #[true, true, false, true, false, false, false] rfl rfl (by kernel_rfl) (fun _ _ _ h_ => h_) (Or.inl ⟨by rfl, ?_⟩) hHeld ?_ ?_
  rotate_left
  · intro w_ hSw
    (obtain ⟨hz0, hz1⟩ := hSw)
    go_simp
    first | done | with_reducible rfl
  rotate_left
  · simp only [Act.put, List.setIfInBounds_toArray, List.set_cons_zero, List.set_cons_succ]
    rfl
  refine one_ (i := 2) (N := some 7) #[true, true, true, true, false, false, false] rfl rfl (by kernel_rfl) (by decide) (fun K_ hK_ => ?_)
  go_simp
  (go_at_call 48; refine (L1.out _).mono ?_; rintro e w5 ⟨rfl, hd⟩; obtain ⟨m5, rfl⟩ := hd)
  refine hK_.out _ _ (⟨hf, q3⟩) (fun hHeld => ?_)
  clear hK_ K_
  try (refine norm_ (by simp only [Act.put, List.setIfInBounds_toArray, List.set_cons_zero, List.set_cons_succ]; rfl) ?_)
  refine one_ (i := 4) (N := some 9) #[true, true, true, true, true, false, false] rfl rfl (by kernel_rfl) (by decide) (fun K_ hK_ => ?_)
  go_simp
  (go_at_call 51; refine (B1.out _).mono ?_; rintro e w6 ⟨rfl, hd⟩; obtain ⟨m6, rfl⟩ := hd)
  refine hK_.out _ _ (⟨hf, q3⟩) (fun hHeld => ?_)
  clear hK_ K_
  try (refine norm_ (by simp only [Act.put, List.setIfInBounds_toArray, List.set_cons_zero, List.set_cons_succ]; rfl) ?_)
  refine take_ (i := 5) (N := some 10) (v := ?_) (a' := ?_) #[true, true, true, true, true, true, false] rfl rfl (by kernel_rfl) (fun _ _ _ h_ => h_) (Or.inl ⟨by rfl, ?_⟩) hHeld ?_ ?_
  rotate_left
  · intro w_ hSw
    (obtain ⟨hz0, hz1⟩ := hSw)
    go_simp
    first | done | with_reducible rfl
  rotate_left
  · simp only [Act.put, List.setIfInBounds_toArray, List.set_cons_zero, List.set_cons_succ]
    rfl
  refine take_ (i := 6) (N := some 4) (v := ?_) (a' := ?_) #[true, true, true, true, true, true, true] rfl rfl (by kernel_rfl) (fun _ _ _ h_ => h_) (Or.inl ⟨by rfl, ?_⟩) hHeld ?_ ?_
  rotate_left
  · intro w_ hSw
    (obtain ⟨hz0, hz1⟩ := hSw)
    go_simp
    first | done | with_reducible rfl
  rotate_left
  · simp only [Act.put, List.setIfInBounds_toArray, List.set_cons_zero, List.set_cons_succ]
    rfl
  refine done_ (by kernel_rfl) ?_
  go_wp2
  go_ret
  exact ⟨rfl, _, World.drewN_drewN ..⟩
set_option maxRecDepth 100000 in
theorem ends_Count.order_in {l0 l : List Int} (h : ends_order.f l0 = some l) : l.length = l0.length ∧ ∀ h : Int, 0 ≤ h → h < (l.length : Int) → 0 ≤ rd l h ∧ rd l h ≤ (l0.length : Int) := by
  unfold ends_order.f at h
  split at h
  · have h := Option.some.inj h
    subst h
    refine ⟨by rw [List.length_map]; unfold ends_order.fin; rw [List.length_mergeSort, List.length_finRange], fun h h0 h1 => ?_⟩
    unfold rd
    rw [List.length_map] at h1
    have hl : h.toNat < (ends_order.fin l0).length := by omega
    rw [List.getD_eq_getElem?_getD, List.getElem?_map, List.getElem?_eq_getElem hl]
    have := ((ends_order.fin l0)[h.toNat]).isLt
    simp only [Option.map_some, Option.getD_some]
    omega
  · cases h
set_option maxHeartbeats 8000000 in
set_option maxRecDepth 100000 in
theorem ends_Count.calls (k : Nat) (A0 : Option Addr) (c0 : Nat) (l0 : List Int) (A1 : Option Addr) (c1 : Nat) (l1 : List Int) (r1 : Int) (r2 : Int) (w : World) (hr0 : Kd.C (Kd.int .u8) w A0 l0.length l0) (hc0 : l0.length ≤ c0) (hr1 : Kd.C (Kd.int .u8) w A1 l1.length l1) (hc1 : l1.length ≤ c1) (h : ends_Count.f k l0 l1 = some (r1, r2)) :
    Calls Try.prog 20 #[.slice A0 l0.length c0, .slice A1 l1.length c1] w fun e w' => e = .returned (.tuple #[.int .i64 r1, .int .i64 r2]) ∧ Below w.heap.size w w' := by
  have hbig0 : l0.length ≤ 9223372036854775807 := hr0.2.1
  have hbig1 : l1.length ≤ 9223372036854775807 := hr1.2.1
  obtain ⟨W1, hW1⟩ : ∃ W1, (w.alloc (.cells #[.slice A0 l0.length c0] 23)).alloc (.cells #[.slice A1 l1.length c1] 23) = W1 := ⟨_, rfl⟩
  have hB1 : Below w.heap.size w W1 := by rw [← hW1]; exact below_alloc (below_alloc (Below.refl _ _) _) _
  have hx0 : W1.heap[w.heap.size]? = some (.cells #[.slice A0 l0.length c0] 23 (0, 0)) := by rw [← hW1]; exact blk_alloc (heap_alloc_new w _) _
  have hx1 : W1.heap[w.heap.size + 1]? = some (.cells #[.slice A1 l1.length c1] 23 (0, 0)) := by
    rw [← hW1]
    have := heap_alloc_new (w.alloc (.cells #[.slice A0 l0.length c0] 23)) (.cells #[.slice A1 l1.length c1] 23)
    simpa using this
  have q0 : W1.cell? ⟨w.heap.size, 0, none⟩ = some (.slice A0 l0.length c0) := (blk_cell hx0 0).trans rfl
  have q1 : W1.cell? ⟨w.heap.size + 1, 0, none⟩ = some (.slice A1 l1.length c1) := (blk_cell hx1 0).trans rfl
  have HB1 := Aside0.mk hB1
  have HX0 := Aside0.mk hx0
  have HX1 := Aside0.mk hx1
  have HR0 := Aside0.mk hr0
  have HR1 := Aside0.mk hr1
  have HC0 := Aside0.mk hc0
  have HC1 := Aside0.mk hc1
  clear hB1 hx0 hx1 hr0 hr1 hc0 hc1
  unfold ends_Count.f at h
  by_cases c1 : l0.length > 60
  · rw [if_pos c1] at h
    obtain ⟨rfl, rfl⟩ : r1 = 0 ∧ r2 = 1 := by simpa [eq_comm] using h
    have t1 : (60 < (l0.length : Int)) = True := eq_true (by omega)
    clear h c1
    go_enter Try.func20, Try.ntmps20
    go_wp2
    go_ret2
    exact ⟨rfl, by simpa [hW1] using HB1.out⟩
  rw [if_neg c1] at h
  have t1 : (60 < (l0.length : Int)) = False := eq_false (by omega)
  by_cases c2 : l1.length > 60
  · rw [if_pos c2] at h
    obtain ⟨rfl, rfl⟩ : r1 = 0 ∧ r2 = 1 := by simpa [eq_comm] using h
    have t2 : (60 < (l1.length : Int)) = True := eq_true (by omega)
    clear h c1 c2
    go_enter Try.func20, Try.ntmps20
    go_wp2
    go_ret2
    exact ⟨rfl, by simpa [hW1] using HB1.out⟩
  rw [if_neg c2] at h
  have t2 : (60 < (l1.length : Int)) = False := eq_false (by omega)
  by_cases c3 : l1.length = 0
  · rw [if_pos c3] at h
    obtain ⟨rfl, rfl⟩ : r1 = wrap64 ((l0.length : Int) + 1) ∧ r2 = 0 := by simpa [eq_comm] using h
    have t3 : ((l1.length : Int) == 0) = true := beq_iff_eq.2 (by omega)
    clear h c1 c2 c3
    go_enter Try.func20, Try.ntmps20
    go_wp2
    go_ret2
    exact ⟨rfl, by simpa [hW1] using HB1.out⟩
  rw [if_neg c3] at h
  have t3 : ((l1.length : Int) == 0) = false := beq_eq_false_iff_ne.2 (by omega)
  obtain ⟨l, hl, h⟩ := Option.bind_eq_some_iff.mp h
  obtain ⟨a, ha, h⟩ := Option.bind_eq_some_iff.mp h
  obtain ⟨b, hb, h⟩ := Option.bind_eq_some_iff.mp h
  obtain ⟨rfl, rfl⟩ : r1 = wrap64 (b - a) ∧ r2 = 0 := by simpa [eq_comm] using h
  obtain ⟨ll, lin⟩ := ends_Count.order_in hl
  have LL := Aside0.mk ll
  have LIN := Aside0.mk lin
  have S0 := Aside0.mk (show l0.length ≤ 60 by omega)
  have S1 := Aside0.mk (show l1.length ≤ 60 by omega)
  have HA := Aside0.mk ha
  have HBB := Aside0.mk hb
  have HO := Aside0.mk (ends_order.calls A0 c0 l0 l W1 (Kd.C_below HR0.out HB1.out) HC0.out hl)
  clear h ha hb ll lin hl c1 c2 c3
  go_enter Try.func20, Try.ntmps20
  go_wp2_with (go_at_call 47; (try rw [hW1]); refine HO.out.mono ?_; rintro e1 w6 ⟨v6, rfl, hr6, hb6⟩; obtain ⟨Al, cl, rfl⟩ := Kd.R_slice hr6; have R6 := Aside0.mk hr6; have B6 := Aside0.mk hb6; clear hr6 hb6)
  have B8 := Aside0.mk (below_alloc (below_alloc (below_step HB1.out B6.out) (.cells #[.slice Al l.length cl] 24)) (.cells #[.func (.func 48) #[] #[.pointer (some ⟨w.heap.size, 0, none⟩), .pointer (some ⟨w6.heap.size, 0, none⟩), .pointer (some ⟨w.heap.size + 1, 0, none⟩)]] 99))
  have X6 := Aside0.mk (blk_alloc (heap_alloc_new w6 (.cells #[.slice Al l.length cl] 24)) (.cells #[.func (.func 48) #[] #[.pointer (some ⟨w.heap.size, 0, none⟩), .pointer (some ⟨w6.heap.size, 0, none⟩), .pointer (some ⟨w.heap.size + 1, 0, none⟩)]] 99))
  have X7 := Aside0.mk (heap_alloc_new (w6.alloc (.cells #[.slice Al l.length cl] 24)) (.cells #[.func (.func 48) #[] #[.pointer (some ⟨w.heap.size, 0, none⟩), .pointer (some ⟨w6.heap.size, 0, none⟩), .pointer (some ⟨w.heap.size + 1, 0, none⟩)]] 99))
  have Y0 := Aside0.mk (blk_alloc (blk_alloc (blk_below HX0.out B6.out) (.cells #[.slice Al l.length cl] 24)) (.cells #[.func (.func 48) #[] #[.pointer (some ⟨w.heap.size, 0, none⟩), .pointer (some ⟨w6.heap.size, 0, none⟩), .pointer (some ⟨w.heap.size + 1, 0, none⟩)]] 99))
  have Y1 := Aside0.mk (blk_alloc (blk_alloc (blk_below HX1.out B6.out) (.cells #[.slice Al l.length cl] 24)) (.cells #[.func (.func 48) #[] #[.pointer (some ⟨w.heap.size, 0, none⟩), .pointer (some ⟨w6.heap.size, 0, none⟩), .pointer (some ⟨w.heap.size + 1, 0, none⟩)]] 99))
  have R8 := Aside0.mk (Kd.R_alloc (Kd.R_alloc R6.out (.cells #[.slice Al l.length cl] 24)) (.cells #[.func (.func 48) #[] #[.pointer (some ⟨w.heap.size, 0, none⟩), .pointer (some ⟨w6.heap.size, 0, none⟩), .pointer (some ⟨w.heap.size + 1, 0, none⟩)]] 99))
  have es7 : (w6.alloc (.cells #[.slice Al l.length cl] 24)).heap.size = w6.heap.size + 1 := by simp
  rw [es7] at X7
  clear es7
  obtain ⟨W8, hW8⟩ : ∃ W8, (w6.alloc (.cells #[.slice Al l.length cl] 24)).alloc (.cells #[.func (.func 48) #[] #[.pointer (some ⟨w.heap.size, 0, none⟩), .pointer (some ⟨w6.heap.size, 0, none⟩), .pointer (some ⟨w.heap.size + 1, 0, none⟩)]] 99) = W8 := ⟨_, rfl⟩
  rw [hW8] at B8 X6 X7 Y0 Y1 R8 ⊢
  have ST := Aside0.mk (show ends_Count.St w.heap.size w6.heap.size (w.heap.size + 1) A0 Al A1 c0 cl c1 l0 l l1 W8 from ⟨(blk_cell Y0.out 0).trans rfl, Kd.C_below HR0.out B8.out, HC0.out, (blk_cell X6.out 0).trans rfl, (Kd.R_reads' R8.out).2.2, (blk_cell Y1.out 0).trans rfl, Kd.C_below HR1.out B8.out, HC1.out, LIN.out, S0.out, S1.out⟩)
  have CF := Aside0.mk ((blk_cell X7.out 0).trans rfl)
  have q6 : W8.cell? ⟨w6.heap.size, 0, none⟩ = some (.slice Al l.length cl) := ST.out.hl
  have q7 : W8.cell? ⟨w6.heap.size + 1, 0, none⟩ = some (.func (.func 48) #[] #[.pointer (some ⟨w.heap.size, 0, none⟩), .pointer (some ⟨w6.heap.size, 0, none⟩), .pointer (some ⟨w.heap.size + 1, 0, none⟩)]) := CF.out
  have hbl : l.length ≤ 9223372036854775807 := by have := LL.out; have := S0.out; omega
  have SA := Aside0.mk (ends_Count.search 50 #[.pointer (some ⟨w6.heap.size + 1, 0, none⟩), .pointer (some ⟨w.heap.size + 1, 0, none⟩)] (enters_of Try.func50 (by kernel_rfl) rfl) l.length (by have := LL.out; have := S0.out; omega) (fun h => decide (ends_Count.cmp l0 l1 l h ≥ 0)) W8 (fun q h h0 h1 => (ends_Count.lit2 (ST.out.drewN q) CF.out h h0 h1).mono (fun e w' hw => ⟨hw.1, by obtain ⟨q', hq⟩ := hw.2; exact ⟨q + q', by rw [hq, World.drewN_drewN]⟩⟩)) k a HA.out)
  have SB := Aside0.mk (fun m => ends_Count.search 52 #[.pointer (some ⟨w6.heap.size + 1, 0, none⟩), .pointer (some ⟨w.heap.size + 1, 0, none⟩)] (enters_of Try.func52 (by kernel_rfl) rfl) l.length (by have := LL.out; have := S0.out; omega) (fun h => decide (ends_Count.cmp l0 l1 l h > 0)) (W8.drewN m) (fun q h h0 h1 => (ends_Count.lit3 ((ST.out.drewN m).drewN q) CF.out h h0 h1).mono (fun e w' hw => ⟨hw.1, by obtain ⟨q', hq⟩ := hw.2; exact ⟨q + q', by rw [hq, World.drewN_drewN]⟩⟩)) k b HBB.out)
  clear HA HBB ST CF X6 X7 Y0 Y1 R8 HX0 HX1 HR0 HR1 HC0 HC1 HO R6 B6 hW8 hW1 q0 q1
  go_wp2_with (go_at_call 49; first
    | (refine SA.out.mono ?_; rintro e1 w9 ⟨rfl, m9, rfl⟩; clear SA)
    | (refine (SB.out _).mono ?_; rintro e1 w10 ⟨rfl, m10, rfl⟩))
  go_ret2
  exact ⟨by first | rfl | simp only [i64_w], pw_below_drewN B8.out _⟩

end Go.Proofs.Ytkalcljgcigdgaa.GE
