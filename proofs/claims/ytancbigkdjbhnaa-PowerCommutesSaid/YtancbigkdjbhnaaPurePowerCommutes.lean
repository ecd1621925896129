/- The law PowerCommutes, as plain Lean. Conditions: none beyond the kinds of the arguments. -/
import Derived.Test.YtancbigkdjbhnaaGB5
import Derived.Test.YtancbigkdjbhnaaPureLibB
namespace Go.Proofs.Ytancbigkdjbhnaa.Pure
set_option linter.unusedVariables false
set_option linter.unusedSimpArgs false
open Go.RowKit Go.Proofs.Ytancbigkdjbhnaa.GB Go.Proofs.Ytancbigkdjbhnaa.PureB Go.Proofs.YtancbigkdjbhnaaW.PrintWords Go.Proofs.YtancbigkdjbhnaaW.PrintLast

/-- uv = vu: the letters one after the other have the period of u's length. -/
theorem pc_per (u v : List Int) (h : u ++ v = v ++ u) : fw_per (fun i => (u ++ v).getD i 0) (u ++ v).length u.length := by
  intro i hi
  simp only [List.length_append] at hi
  have e : (u ++ v).getD (i + u.length) 0 = v.getD i 0 := by
    simp only [List.getD_eq_getElem?_getD]
    rw [List.getElem?_append_right (by omega)]; simp
  have e2 : (u ++ v).getD i 0 = v.getD i 0 := by
    rw [h]
    simp only [List.getD_eq_getElem?_getD]
    rw [List.getElem?_append_left (by omega)]
  simp only; rw [e, e2]
/-- A period of the whole is a period of what it begins with. -/
theorem per_pre {a : List Int} {b : List Int} {n p : Nat} (h : fw_per (fun i => (a ++ b).getD i 0) n p) (hn : a.length ≤ n) : fw_per (fun i => a.getD i 0) a.length p := by
  intro i hi
  have := h i (by omega)
  simp only [List.getD_eq_getElem?_getD] at this ⊢
  rwa [List.getElem?_append_left (by omega), List.getElem?_append_left (by omega)] at this
theorem pre_per {a : List Int} {b : List Int} {p : Nat} {m : Nat} (h : fw_per (fun i => a.getD i 0) a.length p) (hm : m ≤ a.length) : fw_per (fun i => (a ++ b).getD i 0) m p := by
  intro i hi
  have := h i (by omega)
  simp only [List.getD_eq_getElem?_getD] at this ⊢
  rwa [List.getElem?_append_left (by omega), List.getElem?_append_left (by omega)]
theorem rootLen_min {l : List Int} {p q : Nat} (h0 : 0 < l.length) (h : rootLen l p) (hq : 1 ≤ q) (hd : q ∣ l.length) (hp : fw_per (fun i => l.getD i 0) l.length q) : p ≤ q :=
  h.2.2.2 q hq hd ((perB_iff l q hq (Nat.le_of_dvd h0 hd)).2 hp)
/-- The root's length divides every period that divides the length. -/
theorem rootLen_dvd {l : List Int} {p g : Nat} (h0 : 0 < l.length) (h : rootLen l p) (hg : 1 ≤ g) (hd : g ∣ l.length) (hp : fw_per (fun i => l.getD i 0) l.length g) : p ∣ g := by
  have hp1 := h.1
  have hle := rootLen_le h h0
  have hgle := Nat.le_of_dvd h0 hd
  have hpg := rootLen_min h0 h hg hd hp
  have hgcd : 0 < Nat.gcd p g := Nat.gcd_pos_of_pos_left _ hp1
  have hgp : Nat.gcd p g ≤ p := Nat.le_of_dvd hp1 (Nat.gcd_dvd_left p g)
  have key : fw_per (fun i => l.getD i 0) l.length (Nat.gcd p g) := by
    rcases Nat.eq_or_lt_of_le hgle with e | e
    · have : Nat.gcd p g = p := Nat.gcd_eq_left (by rw [e]; exact h.2.1)
      rw [this]; exact rootLen_per h h0
    · obtain ⟨c, hc⟩ := hd
      obtain ⟨d, hdd⟩ := h.2.1
      have hc2 : 2 ≤ c := by
        rcases Nat.lt_or_ge c 2 with hh | hh
        · have : c = 0 ∨ c = 1 := by omega
          rcases this with rfl | rfl
          · rw [Nat.mul_zero] at hc; omega
          · rw [Nat.mul_one] at hc; omega
        · exact hh
      have h2g : 2 * g ≤ l.length := by rw [hc, Nat.mul_comm]; exact Nat.mul_le_mul_left _ hc2
      exact fw_main (p + g) p g l.length _ (Nat.le_refl _) (by omega) (by omega) (rootLen_per h h0) hp (by omega)
  have := rootLen_min h0 h hgcd (Nat.dvd_trans (Nat.gcd_dvd_left p g) h.2.1) key
  have e : Nat.gcd p g = p := by omega
  rw [← e]; exact Nat.gcd_dvd_right p g
theorem pc_forth (u v : List Int) (hu : 0 < u.length) (hv : 0 < v.length) (h : u ++ v = v ++ u) {p q : Nat} (hp : rootLen u p) (hq : rootLen v q) : u.take p = v.take q := by
  have h1 := pc_per u v h
  have h2 := pc_per v u h.symm
  rw [← h] at h2
  have hlen : (u ++ v).length = u.length + v.length := by simp
  have hg0 : 0 < Nat.gcd u.length v.length := Nat.gcd_pos_of_pos_left _ hu
  have hgu : Nat.gcd u.length v.length ≤ u.length := Nat.le_of_dvd hu (Nat.gcd_dvd_left _ _)
  have hgv : Nat.gcd u.length v.length ≤ v.length := Nat.le_of_dvd hv (Nat.gcd_dvd_right _ _)
  have hg := fw_main (u.length + v.length) u.length v.length (u ++ v).length _ (Nat.le_refl _) hu hv h1 h2 (by omega)
  have hp1 := hp.1
  have hq1 := hq.1
  have dp := rootLen_dvd hu hp hg0 (Nat.gcd_dvd_left _ _) (per_pre hg (by omega))
  have hgv' : fw_per (fun i => v.getD i 0) v.length (Nat.gcd u.length v.length) := by
    rw [h] at hg
    exact per_pre hg (by rw [← h]; omega)
  have dq := rootLen_dvd hv hq hg0 (Nat.gcd_dvd_right _ _) hgv'
  have wp : fw_per (fun i => (u ++ v).getD i 0) (u ++ v).length p := fw_wide (by omega) hg0 hg (pre_per (b := v) (rootLen_per hp hu) hgu) (Nat.le_refl _) dp
  have wq : fw_per (fun i => (v ++ u).getD i 0) (v ++ u).length q := fw_wide (by omega) hg0 (by rw [← h]; exact hg) (pre_per (b := u) (rootLen_per hq hv) hgv) (Nat.le_refl _) dq
  have a1 : q ≤ p := rootLen_min hv hq hp1 (Nat.dvd_trans dp (Nat.gcd_dvd_right _ _)) (by rw [h] at wp; exact per_pre wp (by rw [← h]; omega))
  have a2 : p ≤ q := rootLen_min hu hp hq1 (Nat.dvd_trans dq (Nat.gcd_dvd_left _ _)) (by rw [← h] at wq; exact per_pre wq (by omega))
  have e : p = q := by omega
  subst e
  have b1 : (u ++ v).take p = u.take p := by rw [List.take_append_of_le_length (rootLen_le hp hu)]
  have b2 : (v ++ u).take p = v.take p := by rw [List.take_append_of_le_length (rootLen_le hq hv)]
  rw [← b1, ← b2, h]
theorem root_whole (l : List Int) {p : Nat} (h0 : 0 < l.length) (h : rootLen l p) : ∃ i, l = (List.replicate i (l.take p)).flatten := by
  obtain ⟨i, hi⟩ := h.2.1
  refine ⟨i, ?_⟩
  have rep : ∀ i : Nat, i * p ≤ l.length → (List.replicate i (l.take p)).flatten = l.take (i * p) := by
    intro i
    induction i with
    | zero => intro _; simp
    | succ i ih =>
      intro hi
      have e : (i + 1) * p = i * p + p := by rw [Nat.add_mul]; omega
      rw [List.replicate_succ', List.flatten_append, ih (by omega), ← root_step l h0 h i hi]
      simp
  rw [rep i (by rw [Nat.mul_comm]; omega), Nat.mul_comm i p, ← hi]; simp
theorem pc_back (u v : List Int) (hu : 0 < u.length) (hv : 0 < v.length) {p q : Nat} (hp : rootLen u p) (hq : rootLen v q) (h : u.take p = v.take q) : u ++ v = v ++ u := by
  obtain ⟨i, hi⟩ := root_whole u hu hp
  obtain ⟨j, hj⟩ := root_whole v hv hq
  rw [← h] at hj
  generalize u.take p = r at *
  rw [hi, hj, ← List.flatten_append, ← List.flatten_append, List.replicate_append_replicate, List.replicate_append_replicate, Nat.add_comm]
theorem pc_meet (u v : List Int) (hu : u.length ≤ 60) (hv : v.length ≤ 60) (bu : isB u) (bv : isB v) : Ev (fun k => power_Meet.f k u v) (decide (u ++ v = v ++ u), 0) := by
  unfold power_Meet.f
  refine Ev.bind (lar_spec _ (by simp)) (Ev.neg (by simp [any60]; omega) ?_)
  refine Ev.bindc (clone_spec _ (by omega)) (Ev.pos (by omega) ?_)
  refine Ev.bindc (clone_spec _ (by omega)) (Ev.pos (by omega) ?_)
  have ap : ∀ a b : List Int, isB a → isB b → isB (a ++ b) := fun a b ha hb x hx => by
    rcases List.mem_append.1 hx with h | h
    · exact ha x h
    · exact hb x h
  exact Ev.bindc (eqB_spec _ _ (ap u v bu bv) (ap v u bv bu)) (Ev.now _)
theorem pc_roots (u : List Int) (h : u.length ≤ 60) (hb : isB u) : ∃ x : List Int × Int × Int, Ev (fun k => power_Root.f k u) x ∧ x.2.2 = 0 ∧ x.1.length ≤ 60 ∧ (0 < u.length → ∃ p, rootLen u p ∧ x.1 = u.take p) := by
  rcases Nat.eq_zero_or_pos u.length with h0 | h0
  · have e : u = [] := List.eq_nil_of_length_eq_zero h0
    subst e
    exact ⟨_, root_nil, rfl, by simp, fun h => by simp at h⟩
  · obtain ⟨p, hp, hr⟩ := root_spec u h hb h0
    exact ⟨_, hr, rfl, by simp; omega, fun _ => ⟨p, hp, rfl⟩⟩
theorem PowerCommutes : coppicerkeep_PowerCommutes.Pure := by
  intro u v ⟨_, _, wu⟩ ⟨_, _, wv⟩
  have bu := isB_wf wu
  have bv := isB_wf wv
  refine Ev.rounds ?_
  unfold coppicerkeep_PowerCommutes.f
  by_cases h : 60 < u.length ∨ 60 < v.length
  · have hm : Ev (fun k => power_Meet.f k u v) (false, 1) := by
      unfold power_Meet.f
      exact Ev.bind (lar_spec _ (by simp)) (Ev.pos (by simp [any60]; omega) (Ev.now _))
    exact Ev.bind hm (Ev.bind (lon_spec _ (by simp)) (Ev.pos (by simp [any60]; omega) (Ev.now _)))
  · obtain ⟨x, hx, ex, lx, rx⟩ := pc_roots u (by omega) bu
    obtain ⟨y, hy, ey, ly, ry⟩ := pc_roots v (by omega) bv
    refine Ev.bind (pc_meet u v (by omega) (by omega) bu bv) (Ev.bind (lon_spec _ (by simp)) (Ev.neg (by simp [any60]; omega) ?_))
    refine Ev.bind hx (Ev.bind hy (Ev.pos rfl (Ev.pos ex (Ev.pos ey ?_))))
    rcases Nat.eq_zero_or_pos u.length with h0 | h0
    · have e : u = [] := List.eq_nil_of_length_eq_zero h0
      subst e
      exact Ev.pos (by simp) (Ev.eq (Ev.now _) (by simp))
    · refine Ev.neg (by omega) ?_
      rcases Nat.eq_zero_or_pos v.length with h1 | h1
      · have e : v = [] := List.eq_nil_of_length_eq_zero h1
        subst e
        exact Ev.pos (by simp) (Ev.eq (Ev.now _) (by simp))
      · refine Ev.neg (by omega) (Ev.bind (by_spec _ _ (by omega)) (Ev.eq (Ev.now _) ?_))
        obtain ⟨p, hp, e1⟩ := rx h0
        obtain ⟨q, hq, e2⟩ := ry h1
        rw [e1, e2]
        have : decide (u ++ v = v ++ u) = decide (u.take p = v.take q) := by
          rw [decide_eq_decide]
          exact ⟨fun h => pc_forth u v h0 h1 h hp hq, fun h => pc_back u v h0 h1 hp hq h⟩
        simp only [this, beq_self_eq_true]
end Go.Proofs.Ytancbigkdjbhnaa.Pure
