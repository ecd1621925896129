/- The law PowerRoot, as plain Lean. Conditions: none beyond the kinds of the arguments. -/
import Derived.Test.YtancbigkdjbhnaaGB4
import Derived.Test.YtancbigkdjbhnaaPureLibB
namespace Go.Proofs.Ytancbigkdjbhnaa.Pure
set_option linter.unusedVariables false
set_option linter.unusedSimpArgs false
open Go.RowKit Go.Proofs.Ytancbigkdjbhnaa.GB Go.Proofs.Ytancbigkdjbhnaa.PureB Go.Proofs.YtancbigkdjbhnaaW.PrintWords Go.Proofs.YtancbigkdjbhnaaW.PrintLast

/-- What the law asks when all parts are laid side by side. -/
theorem pr_end (l r : List Int) (n : Nat) (b : List Int × Int × Int) (hl : l.length ≤ 60) (hr : r.length ≤ 60) (hn60 : n ≤ 60) (hs : Ev (fun k => power_Root.f k r) b) (h2 : b.2.2 = 0) (h1 : b.1 = r) (h3 : n = 0 ∨ b.2.1 = 1) :
    ∀ (d i : Nat) (acc : List Int), i + d = n → acc.length ≤ 60 → (acc ++ (List.replicate d r).flatten = l) → Ev (fun k => coppicerkeep_PowerRoot.l0 k l r (n : Int) acc (i : Int)) true := by
  intro d
  induction d with
  | zero =>
    intro i acc hi ha he
    have he : acc = l := by simpa using he
    subst he
    refine Ev.step (fun k => by rw [coppicerkeep_PowerRoot.l0]) (Ev.neg (by omega) (Ev.bind hs (Ev.pos h2 ?_)))
    refine Ev.bind (by_spec _ _ (by omega)) (Ev.pos (by simp) ?_)
    refine Ev.bind (by_spec _ _ (by rw [h1]; omega)) ?_
    refine Ev.pos (by simp [h1]) ?_
    by_cases hn : n = 0
    · exact Ev.pos (by omega) (Ev.now _)
    · refine Ev.neg (by omega) (Ev.eq (Ev.now _) ?_)
      rcases h3 with h3 | h3
      · exact absurd h3 hn
      · rw [h3]; rfl
  | succ d ih =>
    intro i acc hi ha he
    rw [List.replicate_succ, List.flatten_cons, ← List.append_assoc] at he
    refine Ev.step (fun k => by rw [coppicerkeep_PowerRoot.l0]) (Ev.pos (by omega) (Ev.pos (by omega) ?_))
    rw [w64 (by omega) (by omega)]
    exact ih (i + 1) (acc ++ r) (by omega) (by have := congrArg List.length he; simp at this ⊢; omega) he
theorem root_rep (l : List Int) {p : Nat} (h0 : 0 < l.length) (h : rootLen l p) : ∀ i : Nat, i * p ≤ l.length → (List.replicate i (l.take p)).flatten = l.take (i * p)
  | 0, _ => by simp
  | i + 1, hi => by
    have e : (i + 1) * p = i * p + p := by rw [Nat.add_mul]; omega
    rw [List.replicate_succ', List.flatten_append, root_rep l h0 h i (by omega), ← root_step l h0 h i hi]
    simp
theorem PowerRoot : coppicerkeep_PowerRoot.Pure := by
  intro l ⟨_, _, hwf⟩
  have hb := isB_wf hwf
  refine Ev.rounds ?_
  unfold coppicerkeep_PowerRoot.f
  by_cases h : 60 < l.length
  · exact Ev.bind (root_long l h) (Ev.bind (lon_spec _ (by simp)) (Ev.pos (by simp [any60]; omega) (Ev.now _)))
  rcases Nat.eq_zero_or_pos l.length with h0 | h0
  · have e : l = [] := List.eq_nil_of_length_eq_zero h0
    subst e
    refine Ev.bind root_nil (Ev.bind (lon_spec _ (by simp)) (Ev.neg (by simp [any60]) (Ev.pos rfl ?_)))
    refine Ev.neg (by simp) (Ev.neg (by simp) ?_)
    refine Ev.step (fun k => by rw [coppicerkeep_PowerRoot.j0]) (Ev.neg (by decide) ?_)
    exact pr_end [] [] 0 _ (by simp) (by simp) (by omega) root_nil rfl rfl (Or.inl rfl) 0 0 [] rfl (by simp) (by simp)
  · obtain ⟨p, hp, hr⟩ := root_spec l (by omega) hb h0
    have hp1 := hp.1
    have hle := rootLen_le hp h0
    have ht : rootLen (l.take p) p := rootLen_take l h0 hp
    have hlt : (l.take p).length = p := by simp; omega
    obtain ⟨p2, hp2, hr2⟩ := root_spec (l.take p) (by omega) (isB_take hb _) (by omega)
    have e2 : p2 = p := rootLen_one _ hp2 ht
    subst e2
    have hdiv : l.length / p2 * p2 = l.length := Nat.div_mul_cancel hp.2.1
    have hd1 : 1 ≤ l.length / p2 := Nat.div_pos hle (by omega)
    have hd2 : l.length / p2 ≤ l.length := Nat.div_le_self _ _
    refine Ev.bind hr (Ev.bind (lon_spec _ (by simp)) (Ev.neg (by simp [any60]; omega) (Ev.pos rfl ?_)))
    refine Ev.neg (by simp only; omega) (Ev.neg (by simp only; omega) ?_)
    have hne : ¬ ((((l.length / p2 : Nat) : Int) == 0) != ((l.length : Int) == 0)) = true := by
      generalize l.length / p2 = q at *
      have a : ((q : Int) == 0) = false := beq_eq_false_iff_ne.2 (by omega)
      have b : ((l.length : Int) == 0) = false := beq_eq_false_iff_ne.2 (by omega)
      rw [a, b]; decide
    refine Ev.step (fun k => by rw [coppicerkeep_PowerRoot.j0]) (Ev.neg hne ?_)
    refine pr_end l (l.take p2) (l.length / p2) _ (by omega) (by omega) (by omega) hr2 rfl (by simp [List.take_take]) (Or.inr ?_) (l.length / p2) 0 [] (by omega) (by simp) ?_
    · simp only
      rw [hlt, Nat.div_self (by omega)]; rfl
    · rw [root_rep l h0 hp _ (by omega), hdiv]; simp
end Go.Proofs.Ytancbigkdjbhnaa.Pure
