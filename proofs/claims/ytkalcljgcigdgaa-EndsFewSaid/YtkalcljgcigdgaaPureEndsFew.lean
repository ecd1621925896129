/- The law EndsFew, as plain Lean: a word is counted as often as it is found, and what it begins with no less often. Conditions: none beyond the kinds of the arguments. -/
import Derived.Test.YtkalcljgcigdgaaPEOcc
import Derived.Test.YtkalcljgcigdgaaGE7
namespace Go.Proofs.Ytkalcljgcigdgaa.Pure
set_option linter.unusedVariables false
set_option linter.unusedSimpArgs false
open Go.RowKit Go.Proofs.Ytkalcljgcigdgaa.GE Go.Proofs.Ytkalcljgcigdgaa.PEM Go.Proofs.YtkalcljgcigdgaaW.PrintWords Go.Proofs.YtkalcljgcigdgaaW.PrintLast Go.Proofs.YtkalcljgcigdgaaW.PrintMore

theorem many_le (w u : List Int) : many w u ≤ w.length := by
  unfold many
  have := List.length_filter_le (occB u w) (List.range w.length)
  rwa [List.length_range] at this
theorem many_part (w u : List Int) (n : Nat) : many w u ≤ many w (u.take n) := by
  unfold many
  generalize List.range w.length = l
  induction l with
  | nil => simp
  | cons p l ih =>
    by_cases h : occB u w p = true
    · have h2 : occB (u.take n) w p = true := by
        unfold occB at h ⊢
        rw [decide_eq_true_iff] at h ⊢
        have h3 := congrArg (fun z => z.take n) h
        simp only [List.take_take] at h3
        rw [List.length_take, h3]
      rw [List.filter_cons, if_pos h, List.filter_cons, if_pos h2, List.length_cons, List.length_cons]
      omega
    · rw [List.filter_cons, if_neg h, List.filter_cons]
      split
      · rw [List.length_cons]; omega
      · exact ih
theorem EndsFew : coppicerkeep_EndsFew.Pure := by
  intro w u k hw hu hk
  have bw : BytesL w := fun x hx => wf_u8 (hw.2.2 x hx)
  have bu : BytesL u := fun x hx => wf_u8 (hu.2.2 x hx)
  have hk := wf_u8 hk
  have c1 := count_spec bw bu
  have f1 := find_spec u w
  have hlon := lon_spec [w, u] (by simp)
  have ha : any60 [w, u] = (decide (60 < w.length) || decide (60 < u.length)) := by simp [any60]
  rw [ha] at hlon
  refine Ev.rounds ?_
  unfold coppicerkeep_EndsFew.f
  by_cases hl : 60 < w.length ∨ 60 < u.length
  · rw [if_pos hl] at c1
    rw [if_pos hl.symm] at f1
    have hb : (decide (60 < w.length) || decide (60 < u.length)) = true := by rw [Bool.or_eq_true, decide_eq_true_iff, decide_eq_true_iff]; exact hl
    rw [hb] at hlon
    exact Ev.bind c1 (Ev.bind f1 (Ev.bind hlon (Ev.pos rfl (Ev.neg (by decide) (Ev.now _)))))
  · rw [if_neg hl] at c1
    rw [if_neg (fun h => hl h.symm)] at f1
    have hb : (decide (60 < w.length) || decide (60 < u.length)) = false := by rw [Bool.or_eq_false_iff, decide_eq_false_iff_not, decide_eq_false_iff_not]; omega
    rw [hb] at hlon
    obtain ⟨n, hn⟩ : ∃ n : Nat, k % ((u.length : Int) + 1) = n := ⟨(k % ((u.length : Int) + 1)).toNat, by have := Int.emod_nonneg k (show (u.length : Int) + 1 ≠ 0 by omega); omega⟩
    have hn2 : (n : Int) < (u.length : Int) + 1 := by rw [← hn]; exact Int.emod_lt_of_pos _ (by omega)
    have ew : wrap64 ((u.length : Int) + 1) = (u.length : Int) + 1 := by rw [w64 (by omega) (by omega)]
    have ei : Int.tmod (wrap64 k) ((u.length : Int) + 1) = n := by rw [w64 (by omega) (by omega), tm (by omega), hn]
    have ew2 : wrap64 ((w.length : Int) + 1) = (w.length : Int) + 1 := by rw [w64 (by omega) (by omega)]
    simp only [ew, ei, ew2]
    clear ew ei ew2 hn ha
    have c2 := count_spec bw (bytesL_take bu n)
    rw [if_neg (by rw [List.length_take]; omega)] at c2
    have c3 := count_spec bw (u := []) (fun x hx => by cases hx)
    rw [if_neg (by simp; omega), if_pos rfl] at c3
    refine Ev.bind c1 (Ev.bind f1 (Ev.bind hlon (Ev.neg (by decide) (Ev.neg (by omega) (Ev.pos (by omega) (Ev.pos (by omega) ?_))))))
    rw [Int.toNat_natCast]
    have hle := many_le w u
    have hle2 := many_le w (u.take n)
    have hpart := many_part w u n
    have hend : Ev (fun k => coppicerkeep_EndsFew.j0 k ((w.length : Int) + 1 == (w.length : Int) + 1)) true := Ev.step (fun q => by rw [coppicerkeep_EndsFew.j0]) (Ev.eq (Ev.now _) (by simp))
    have hz2 : ∀ v : List Int × Int, (if v.1 = [] then ((w.length : Int) + 1, (0 : Int)) else ((many w v.1 : Int), 0)).2 = 0 := fun v => by split <;> rfl
    have k1 : (if u = [] then ((w.length : Int) + 1, (0 : Int)) else ((many w u : Int), 0)).2 = 0 := by split <;> rfl
    have k2 : (if u.take n = [] then ((w.length : Int) + 1, (0 : Int)) else ((many w (u.take n) : Int), 0)).2 = 0 := by split <;> rfl
    have k3 : (if u = [] then ((w.length : Int) + 1, (0 : Int)) else ((many w u : Int), 0)).1 = ((occs u w w.length).length : Int) := by
      by_cases h : u = []
      · subst h
        rw [if_pos rfl]
        unfold occs
        rw [List.length_map, List.filter_eq_self.2 (fun p _ => occ_iff.2 (.inr rfl)), List.length_range]
        simp
      · rw [if_neg h, occs_many h]
    have k4 : (if u.take n = [] then ((w.length : Int) + 1, (0 : Int)) else ((many w (u.take n) : Int), 0)).1 ≥ (if u = [] then ((w.length : Int) + 1, (0 : Int)) else ((many w u : Int), 0)).1 := by
      by_cases h : u = []
      · subst h; simp
      · rw [if_neg h]
        by_cases h2 : u.take n = []
        · rw [if_pos h2]; show (w.length : Int) + 1 ≥ (many w u : Int); omega
        · rw [if_neg h2]; show (many w (u.take n) : Int) ≥ (many w u : Int); omega
    exact Ev.bind c2 (Ev.bind c3 (Ev.pos k1 (Ev.pos rfl (Ev.pos k2 (Ev.pos rfl (Ev.pos k3 (Ev.pos k4 hend)))))))

end Go.Proofs.Ytkalcljgcigdgaa.Pure
