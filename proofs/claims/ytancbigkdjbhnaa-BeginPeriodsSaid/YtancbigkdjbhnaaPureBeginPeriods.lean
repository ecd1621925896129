/- The law BeginPeriods, as plain Lean: a place is a period just if the word comes again from there on to its end. Conditions: none beyond the kinds of the arguments. -/
import Derived.Test.YtancbigkdjbhnaaPureLibA
import Derived.Test.YtancbigkdjbhnaaGA20
namespace Go.Proofs.Ytancbigkdjbhnaa.Pure
set_option linter.unusedVariables false
set_option linter.unusedSimpArgs false
open Go.RowKit Go.Proofs.Ytancbigkdjbhnaa.GA Go.Proofs.YtancbigkdjbhnaaW.PrintWords Go.Proofs.YtancbigkdjbhnaaW.PrintLast

structure Zk (w : List Int) (i k : Nat) : Prop where
  le : i + k ≤ w.length
  same : ∀ s, s < k → w.getD s 0 = w.getD (i + s) 0
  most : i + k = w.length ∨ w.getD k 0 ≠ w.getD (i + k) 0
theorem gsA (xs : List Int) (n t : Nat) (a : Int) (h : n < xs.length) : (xs.set n a).getD t 0 = if t = n then a else xs.getD t 0 := by
  simp only [List.getD_eq_getElem?_getD, List.getElem?_set]
  by_cases e : n = t
  · subst e; simp [h]
  · rw [if_neg e, if_neg (Ne.symm e)]
theorem ag_inner (w z : List Int) (hl : w.length ≤ 60) (hz : z.length = w.length) (i f t : Nat) (hi : 1 ≤ i) (hiw : i < w.length) (ht : t ≤ w.length) :
    ∀ (d k : Nat), i + k + d = w.length → (∀ s, s < k → w.getD s 0 = w.getD (i + s) 0) →
      ∃ k', Zk w i k' ∧ ∀ R, Ev (fun n => if t < i + k' then begin_Again.l0 n w (z.set i (k' : Int)) (i : Int) ((i + k' : Nat) : Int) (w.length : Int) ((i + 1 : Nat) : Int) else begin_Again.l0 n w (z.set i (k' : Int)) (f : Int) (t : Int) (w.length : Int) ((i + 1 : Nat) : Int)) R →
        Ev (fun n => begin_Again.l1 n w z (f : Int) (t : Int) (i : Int) (k : Int) (w.length : Int) (i : Int)) R := by
  have fin : ∀ k : Nat, i + k ≤ w.length → ∀ R, Ev (fun n => if t < i + k then begin_Again.l0 n w (z.set i (k : Int)) (i : Int) ((i + k : Nat) : Int) (w.length : Int) ((i + 1 : Nat) : Int) else begin_Again.l0 n w (z.set i (k : Int)) (f : Int) (t : Int) (w.length : Int) ((i + 1 : Nat) : Int)) R →
      Ev (fun n => if ((i : Int) + (k : Int)) > (t : Int) then (if 0 ≤ (i : Int) then (if (i : Int) < (z.length : Int) then (begin_Again.l0 n w (z.set ((i : Int)).toNat (k : Int)) (i : Int) ((i : Int) + (k : Int)) (w.length : Int) (wrap64 ((i : Int) + 1))) else none) else none)
        else (if 0 ≤ (i : Int) then (if (i : Int) < (z.length : Int) then (begin_Again.l0 n w (z.set ((i : Int)).toNat (k : Int)) (f : Int) (t : Int) (w.length : Int) (wrap64 ((i : Int) + 1))) else none) else none)) R := by
    intro k hk R h
    rw [w64 (n := (i : Int) + 1) (by omega) (by omega), Int.toNat_natCast]
    by_cases c : t < i + k
    · have h := Ev.congr (fun n => (if_pos c).symm) h
      rw [Int.natCast_add] at h
      exact Ev.pos (by omega) (Ev.pos (by omega) (Ev.pos (by omega) h))
    · have h := Ev.congr (fun n => (if_neg c).symm) h
      exact Ev.neg (by omega) (Ev.pos (by omega) (Ev.pos (by omega) h))
  intro d
  induction d with
  | zero =>
    intro k hk hs
    refine ⟨k, ⟨by omega, hs, .inl (by omega)⟩, fun R h => Ev.step (fun n => by rw [begin_Again.l1]) ?_⟩
    rw [w64 (n := (i : Int) + k) (by omega) (by omega)]
    exact Ev.neg (by omega) (fin k (by omega) R h)
  | succ d ih =>
    intro k hk hs
    by_cases e : w.getD k 0 = w.getD (i + k) 0
    · obtain ⟨k', h1, h2⟩ := ih (k + 1) (by omega) (fun s h => by
        rcases Nat.lt_or_ge s k with c | c
        · exact hs s c
        · obtain rfl : s = k := by omega
          exact e)
      refine ⟨k', h1, fun R h => Ev.step (fun n => by rw [begin_Again.l1]) ?_⟩
      rw [w64 (n := (i : Int) + k) (by omega) (by omega), w64 (n := (k : Int) + 1) (by omega) (by omega)]
      refine Ev.pos (by omega) (Ev.pos (by omega) (Ev.pos (by omega) (Ev.pos (by omega) (Ev.pos ?_ (h2 R h)))))
      rw [← Int.natCast_add, rd_nat, rd_nat]; exact e
    · refine ⟨k, ⟨by omega, hs, .inr e⟩, fun R h => Ev.step (fun n => by rw [begin_Again.l1]) ?_⟩
      rw [w64 (n := (i : Int) + k) (by omega) (by omega)]
      refine Ev.pos (by omega) (Ev.pos (by omega) (Ev.pos (by omega) (Ev.pos (by omega) (Ev.neg ?_ (fin k (by omega) R h)))))
      rw [← Int.natCast_add, rd_nat, rd_nat]; exact e
theorem mn_natA (a b : Nat) : mn (a : Int) (b : Int) = ((min a b : Nat) : Int) := by unfold mn; split <;> omega
theorem ag_outer (w : List Int) (hl : w.length ≤ 60) : ∀ (d i f t : Nat) (z : List Int), i + d = w.length → z.length = w.length → (∀ q, 1 ≤ q → q < i → ∃ k : Nat, z.getD q 0 = k ∧ Zk w q k) → (0 < i → z.getD 0 0 = w.length) →
    t ≤ w.length → (i < t → 1 ≤ f ∧ f < i) → (∀ s, f + s < t → w.getD s 0 = w.getD (f + s) 0) →
    ∃ zf : List Int, zf.length = w.length ∧ (∀ q, 1 ≤ q → q < w.length → ∃ k : Nat, zf.getD q 0 = k ∧ Zk w q k) ∧ (0 < w.length → zf.getD 0 0 = w.length) ∧
      Ev (fun n => begin_Again.l0 n w z (f : Int) (t : Int) (w.length : Int) (i : Int)) (zf, 0) := by
  intro d
  induction d with
  | zero =>
    intro i f t z hi hz h1 h2 h3 h4 h5
    obtain rfl : i = w.length := by omega
    exact ⟨z, hz, h1, h2, Ev.step (fun n => by rw [begin_Again.l0]) (Ev.neg (by omega) (Ev.now _))⟩
  | succ d ih =>
    intro i f t z hi hz h1 h2 h3 h4 h5
    rcases Nat.eq_zero_or_pos i with rfl | hp
    · obtain ⟨zf, a, b, c, e⟩ := ih 1 f t (z.set 0 (w.length : Int)) (by omega) (by simpa using hz) (fun q h h' => by omega) (fun _ => by rw [gsA _ _ _ _ (by omega), if_pos rfl]) h3 (fun h => by have := h4 (by omega); omega) h5
      refine ⟨zf, a, b, c, Ev.step (fun n => by rw [begin_Again.l0]) ?_⟩
      refine Ev.pos (by omega) (Ev.pos rfl (Ev.pos (by omega) ?_))
      rw [w64 (by omega) (by omega)]
      exact e
    · have main : ∀ k : Nat, i + k ≤ w.length → (∀ s, s < k → w.getD s 0 = w.getD (i + s) 0) → ∃ zf : List Int, zf.length = w.length ∧ (∀ q, 1 ≤ q → q < w.length → ∃ k : Nat, zf.getD q 0 = k ∧ Zk w q k) ∧ (0 < w.length → zf.getD 0 0 = w.length) ∧
          Ev (fun n => begin_Again.j1 n w z (f : Int) (t : Int) (i : Int) (k : Int) (w.length : Int) (i : Int)) (zf, 0) := by
        intro k hk hs
        obtain ⟨k', hk', hgo⟩ := ag_inner w z hl hz i f t hp (by omega) h3 (w.length - i - k) k (by omega) hs
        have hz' : (z.set i (k' : Int)).length = w.length := by simpa using hz
        have hq : ∀ q, 1 ≤ q → q < i + 1 → ∃ k : Nat, (z.set i (k' : Int)).getD q 0 = k ∧ Zk w q k := fun q a b => by
          rw [gsA _ _ _ _ (by omega)]
          by_cases e : q = i
          · subst e; rw [if_pos rfl]; exact ⟨k', rfl, hk'⟩
          · rw [if_neg e]; exact h1 q a (by omega)
        have h0 : 0 < i + 1 → (z.set i (k' : Int)).getD 0 0 = w.length := fun _ => by rw [gsA _ _ _ _ (by omega), if_neg (by omega)]; exact h2 hp
        by_cases c : t < i + k'
        · obtain ⟨zf, a1, a2, a3, a4⟩ := ih (i + 1) i (i + k') _ (by omega) hz' hq h0 hk'.le (fun _ => by omega) (fun s hs => hk'.same s (by omega))
          exact ⟨zf, a1, a2, a3, Ev.step (fun n => by rw [begin_Again.j1]) (hgo _ (Ev.pos c a4))⟩
        · obtain ⟨zf, a1, a2, a3, a4⟩ := ih (i + 1) f t _ (by omega) hz' hq h0 h3 (fun h => by have := h4 (by omega); omega) h5
          exact ⟨zf, a1, a2, a3, Ev.step (fun n => by rw [begin_Again.j1]) (hgo _ (Ev.neg c a4))⟩
      by_cases c : i < t
      · obtain ⟨hf1, hf2⟩ := h4 c
        obtain ⟨kz, e1, e2⟩ := h1 (i - f) (by omega) (by omega)
        obtain ⟨zf, a1, a2, a3, a4⟩ := main (min kz (t - i)) (by omega) (fun s hs => by
          have x := e2.same s (by omega)
          have y := h5 (i - f + s) (by omega)
          rw [show f + (i - f + s) = i + s by omega] at y
          rw [x, y])
        refine ⟨zf, a1, a2, a3, Ev.step (fun n => by rw [begin_Again.l0]) ?_⟩
        refine Ev.pos (by omega) (Ev.neg (by omega) (Ev.pos (by omega) ?_))
        rw [w64 (n := (i : Int) - f) (by omega) (by omega), w64 (n := (t : Int) - i) (by omega) (by omega)]
        refine Ev.pos (by omega) (Ev.pos (by omega) ?_)
        rw [show (i : Int) - f = ((i - f : Nat) : Int) by omega, rd_nat, e1, show (t : Int) - i = ((t - i : Nat) : Int) by omega, mn_natA]
        exact a4
      · obtain ⟨zf, a1, a2, a3, a4⟩ := main 0 (by omega) (fun s hs => by omega)
        refine ⟨zf, a1, a2, a3, Ev.step (fun n => by rw [begin_Again.l0]) ?_⟩
        exact Ev.pos (by omega) (Ev.neg (by omega) (Ev.neg (by omega) a4))
theorem again_spec (w : List Int) (hl : w.length ≤ 60) : ∃ zf : List Int, zf.length = w.length ∧ (∀ q, 1 ≤ q → q < w.length → ∃ k : Nat, zf.getD q 0 = k ∧ Zk w q k) ∧ (0 < w.length → zf.getD 0 0 = w.length) ∧ Ev (fun n => begin_Again.f n w) (zf, 0) := by
  obtain ⟨zf, a1, a2, a3, a4⟩ := ag_outer w hl w.length 0 0 0 (List.replicate w.length 0) (by omega) (by simp) (fun q h h' => by omega) (fun h => by omega) (by omega) (fun h => by omega) (fun s h => by omega)
  refine ⟨zf, a1, a2, a3, ?_⟩
  unfold begin_Again.f
  refine Ev.neg (by omega) (Ev.pos (by omega) (Ev.pos (by omega) (Ev.let_ ?_)))
  rw [Int.toNat_natCast, List.length_replicate]
  exact a4
theorem BeginPeriods : coppicerkeep_BeginPeriods.Pure := by
  intro w p ⟨_, hlw, hw⟩ hp
  have hb := isB_wf hw
  have hp := wf_i64 hp
  refine Ev.rounds ?_
  unfold coppicerkeep_BeginPeriods.f
  by_cases hl : 60 < w.length
  · refine Ev.bind (show Ev (fun n => begin_Again.f n w) ([], 1) by unfold begin_Again.f; exact Ev.pos (by omega) (Ev.now _)) (Ev.bind (lon_spec _ (by simp)) (Ev.pos (by simpa [any60] using hl) (Ev.eq (Ev.now _) (by decide))))
  obtain ⟨z, hz, hq, h0, he⟩ := again_spec w (by omega)
  refine Ev.bind he (Ev.bind (lon_spec _ (by simp)) (Ev.neg (by simpa [any60] using hl) (Ev.pos rfl ?_)))
  refine Ev.step (fun k => by rw [coppicerkeep_BeginPeriods.j0]) (Ev.neg (by simp [hz]) (Ev.bind (period_spec w hb p) ?_))
  rw [if_neg hl]
  dsimp only
  have tail : Ev (fun _ : Nat => if (w.length : Int) = 0 then some true else if 0 < (z.length : Int) then some (rd z 0 == (w.length : Int)) else none) true := by
    by_cases c : (w.length : Int) = 0
    · exact Ev.pos c (Ev.now _)
    · refine Ev.neg c (Ev.pos (by omega) (Ev.eq (Ev.now _) ?_))
      rw [show (0 : Int) = ((0 : Nat) : Int) from rfl, rd_nat, h0 (by omega)]; simp
  have out : (p < 1 ∨ p ≥ (w.length : Int)) → Ev (fun _ : Nat => if p = (w.length : Int) then (if (perB w p == decide (p > 0)) = true then (if (w.length : Int) = 0 then some true else if 0 < (z.length : Int) then some (rd z 0 == (w.length : Int)) else none) else some false) else (if (perB w p == false) = true then (if (w.length : Int) = 0 then some true else if 0 < (z.length : Int) then some (rd z 0 == (w.length : Int)) else none) else some false)) true := by
    intro h
    by_cases c : p = (w.length : Int)
    · refine Ev.pos c (Ev.pos ?_ tail)
      subst c
      rw [beq_iff_eq]
      unfold perB
      rw [decide_eq_decide]
      constructor
      · intro h; omega
      · intro h; exact ⟨by omega, by omega, by simp⟩
    · refine Ev.neg c (Ev.pos ?_ tail)
      rw [beq_iff_eq]
      unfold perB
      rw [decide_eq_false_iff_not]
      omega
  by_cases c1 : p < 1
  · exact Ev.pos c1 (Ev.pos rfl (out (.inl c1)))
  refine Ev.neg c1 ?_
  by_cases c2 : p ≥ (w.length : Int)
  · exact Ev.pos c2 (Ev.pos rfl (out (.inr c2)))
  obtain ⟨m, rfl⟩ : ∃ m : Nat, p = m := ⟨p.toNat, by omega⟩
  obtain ⟨k, e1, e2⟩ := hq m (by omega) (by omega)
  refine Ev.neg c2 (Ev.pos rfl (Ev.pos (by omega) (Ev.pos (by omega) (Ev.eq (Ev.now _) ?_))))
  rw [rd_nat, e1, w64 (by omega) (by omega), beq_iff_eq, Bool.eq_iff_iff, perB_iff w m (by omega) (by omega), beq_iff_eq]
  constructor
  · intro h
    rcases e2.most with c | c
    · omega
    · have := e2.le
      rcases Nat.lt_or_ge (m + k) w.length with g | g
      · exact absurd (by rw [h k (by omega), Nat.add_comm]) c
      · omega
  · intro h i hi
    rw [e2.same i (by omega), Nat.add_comm]
end Go.Proofs.Ytancbigkdjbhnaa.Pure
