/- The law PowerFine, as plain Lean: Fine and Wilf: of a word with the periods p and q that is at least p + q - gcd(p, q) long, gcd(p, q) is a period. Conditions: none beyond the kinds of the arguments. -/
import Derived.Test.YtancbigkdjbhnaaPureLibA
import Derived.Test.YtancbigkdjbhnaaGA8
namespace Go.Proofs.Ytancbigkdjbhnaa.Pure
set_option linter.unusedVariables false
set_option linter.unusedSimpArgs false
open Go.RowKit Go.Proofs.Ytancbigkdjbhnaa.GA Go.Proofs.YtancbigkdjbhnaaW.PrintWords Go.Proofs.YtancbigkdjbhnaaW.PrintLast

def fw_per (a : Nat → Int) (n p : Nat) : Prop := ∀ i, i + p < n → a i = a (i + p)
theorem fw_mul {a : Nat → Int} {n p : Nat} (h : fw_per a n p) : ∀ (t i : Nat), i + t * p < n → a i = a (i + t * p)
  | 0, i, _ => by simp
  | t + 1, i, hi => by
    have e : i + (t + 1) * p = i + t * p + p := by rw [Nat.add_mul]; omega
    rw [e] at hi ⊢
    rw [fw_mul h t i (by omega), h _ hi]
theorem fw_mod {a : Nat → Int} {n p : Nat} (h : fw_per a n p) (i : Nat) (hi : i < n) : a i = a (i % p) := by
  have e := Nat.mod_add_div i p
  have := fw_mul h (i / p) (i % p) (by rw [Nat.mul_comm]; omega)
  rw [this, Nat.mul_comm, e]
/-- g divides p, p is a period, and g is one of the first p letters: g is a period. -/
theorem fw_wide {a : Nat → Int} {n m p g : Nat} (hg : 0 < g) (hp0 : 0 < p) (hp : fw_per a n p) (hgm : fw_per a m g) (hm : p ≤ m) (hd : g ∣ p) : fw_per a n g := by
  obtain ⟨t, rfl⟩ := hd
  intro i hi
  rw [fw_mod hp i (by omega), fw_mod hp (i + g) hi]
  have e : a (i % (g * t)) = a (i % (g * t) % g) := fw_mod hgm _ (Nat.lt_of_lt_of_le (Nat.mod_lt _ hp0) hm)
  have e2 : a ((i + g) % (g * t)) = a ((i + g) % (g * t) % g) := fw_mod hgm _ (Nat.lt_of_lt_of_le (Nat.mod_lt _ hp0) hm)
  rw [e, e2, Nat.mod_mul_right_mod, Nat.mod_mul_right_mod, Nat.add_mod_right]
theorem fw_main : ∀ (s p q n : Nat) (a : Nat → Int), p + q ≤ s → 0 < p → 0 < q → fw_per a n p → fw_per a n q → p + q ≤ n + Nat.gcd p q → fw_per a n (Nat.gcd p q) := by
  intro s
  induction s with
  | zero => intro p q n a h h1; omega
  | succ s ih =>
    have key : ∀ p q n (a : Nat → Int), p + q ≤ s + 1 → 0 < p → 0 < q → fw_per a n p → fw_per a n q → p + q ≤ n + Nat.gcd p q → p < q → fw_per a n (Nat.gcd p q) := by
      intro p q n a hs hp hq hpp hqq hn hlt
      have eg : Nat.gcd p (q - p) = Nat.gcd p q := by
        rw [Nat.gcd_sub_self_right (by omega)]
      have hgp : Nat.gcd p q ≤ p := Nat.le_of_dvd hp (Nat.gcd_dvd_left p q)
      have hgd : Nat.gcd p q ≤ q - p := by rw [← eg]; exact Nat.le_of_dvd (by omega) (Nat.gcd_dvd_right p (q - p))
      have h1 := ih p (q - p) (n - p) a (by omega) hp (by omega) (fun i hi => hpp i (by omega)) (fun i hi => by
        have x := hqq i (by omega)
        have y := hpp (i + (q - p)) (by omega)
        rw [show i + (q - p) + p = i + q by omega] at y
        rw [x, y]) (by rw [eg]; omega)
      rw [eg] at h1
      exact fw_wide (Nat.gcd_pos_of_pos_left _ hp) hp hpp h1 (by omega) (Nat.gcd_dvd_left p q)
    intro p q n a hs hp hq hpp hqq hn
    rcases Nat.lt_trichotomy p q with h | h | h
    · exact key p q n a hs hp hq hpp hqq hn h
    · subst h; rw [Nat.gcd_self]; exact hpp
    · rw [Nat.gcd_comm]; exact key q p n a (by omega) hq hp hqq hpp (by rw [Nat.gcd_comm]; omega) h
theorem perB_range {l : List Int} {p : Int} (h : perB l p = true) : 1 ≤ p ∧ p ≤ l.length := by
  unfold perB at h
  rw [decide_eq_true_iff] at h
  exact ⟨h.1, h.2.1⟩
theorem fine_wilf (l : List Int) (p q : Nat) (hp : perB l p = true) (hq : perB l q = true) (h : p + q ≤ l.length + Nat.gcd p q) : perB l (Nat.gcd p q : Nat) = true := by
  have rp := perB_range hp
  have rq := perB_range hq
  have hg : 0 < Nat.gcd p q := Nat.gcd_pos_of_pos_left _ (by omega)
  have hgp : Nat.gcd p q ≤ p := Nat.le_of_dvd (by omega) (Nat.gcd_dvd_left p q)
  rw [perB_iff l _ (by omega) (by omega)] at hp hq ⊢
  exact fw_main (p + q) p q l.length (fun i => l.getD i 0) (Nat.le_refl _) (by omega) (by omega) hp hq h

theorem pf_j1 (l : List Int) (hl : l.length ≤ 60) (hb : isB l) (p q : Nat) (c : Bool) (h : c = false → perB l (Nat.gcd q p : Nat) = true) : Ev (fun k => coppicerkeep_PowerFine.j1 k l (p : Int) (q : Int) c) true := by
  refine Ev.step (fun k => by rw [coppicerkeep_PowerFine.j1]) ?_
  cases c with
  | true => exact Ev.pos rfl (Ev.now _)
  | false =>
    refine Ev.neg (by simp) (Ev.bind (gcd_spec q p) (Ev.bind (period_spec' l hb hl _) ?_))
    exact Ev.pos rfl (Ev.eq (Ev.now _) (h rfl))
theorem pf_j0 (l : List Int) (hl : l.length ≤ 60) (hb : isB l) (p q : Int) : Ev (fun k => coppicerkeep_PowerFine.j0 k l p q (perB l p) (perB l q) false) true := by
  refine Ev.step (fun k => by rw [coppicerkeep_PowerFine.j0]) (Ev.neg (by simp) ?_)
  have triv : Ev (fun k => coppicerkeep_PowerFine.j1 k l p q true) true := Ev.step (fun k => by rw [coppicerkeep_PowerFine.j1]) (Ev.pos rfl (Ev.now _))
  by_cases hp : perB l p = true
  · refine Ev.pos hp ?_
    by_cases hq : perB l q = true
    · refine Ev.pos hq ?_
      have rp := perB_range hp
      have rq := perB_range hq
      obtain ⟨p, rfl⟩ : ∃ m : Nat, p = m := ⟨p.toNat, by omega⟩
      obtain ⟨q, rfl⟩ : ∃ m : Nat, q = m := ⟨q.toNat, by omega⟩
      have hgp : Nat.gcd q p ≤ q := Nat.le_of_dvd (by omega) (Nat.gcd_dvd_left q p)
      refine Ev.bind (gcd_spec q p) (pf_j1 l hl hb p q _ fun hc => ?_)
      rw [w64 (n := (p : Int) + q) (by omega) (by omega), w64 (by omega) (by omega), decide_eq_false_iff_not] at hc
      rw [Nat.gcd_comm]
      exact fine_wilf l p q hp hq (by rw [Nat.gcd_comm]; omega)
    · exact Ev.neg hq triv
  · exact Ev.neg hp triv
theorem PowerFine : coppicerkeep_PowerFine.Pure := by
  intro l p q ⟨_, hl, hwf⟩ hp hq
  have hb := isB_wf hwf
  have hp := wf_i64 hp
  have hq := wf_i64 hq
  refine Ev.rounds ?_
  unfold coppicerkeep_PowerFine.f
  refine Ev.bind (period_spec l hb p) (Ev.bind (period_spec l hb q) (Ev.bind (lon_spec _ (by simp)) ?_))
  by_cases h : 60 < l.length
  · rw [if_pos h, if_pos h]
    exact Ev.pos (by simp [any60, h]) (Ev.neg (by simp) (Ev.eq (Ev.now _) (by decide)))
  · rw [if_neg h, if_neg h]
    refine Ev.neg (by simp [any60, h]) (Ev.bind (period_spec l hb _) ?_)
    rw [if_neg h]
    have hlen : perB l (l.length : Int) = decide ((l.length : Int) > 0) := by
      unfold perB
      rw [decide_eq_decide]
      constructor
      · rintro ⟨h1, _⟩; omega
      · intro h1; refine ⟨by omega, by omega, ?_⟩; simp
    refine Ev.pos rfl (Ev.pos rfl (Ev.pos rfl (Ev.neg (by simp [hlen]) ?_)))
    have J := pf_j0 l (by omega) hb p q
    by_cases h1 : perB l p = true
    · have r1 := perB_range h1
      refine Ev.pos h1 (Ev.neg (by omega) (Ev.neg (by omega) ?_))
      by_cases h2 : perB l q = true
      · have r2 := perB_range h2
        refine Ev.pos h2 (Ev.neg (by omega) ?_)
        rw [show decide (q > (l.length : Int)) = false by rw [decide_eq_false_iff_not]; omega]
        exact J
      · exact Ev.neg h2 J
    · refine Ev.neg h1 ?_
      by_cases h2 : perB l q = true
      · have r2 := perB_range h2
        refine Ev.pos h2 (Ev.neg (by omega) ?_)
        rw [show decide (q > (l.length : Int)) = false by rw [decide_eq_false_iff_not]; omega]
        exact J
      · exact Ev.neg h2 J
end Go.Proofs.Ytancbigkdjbhnaa.Pure
