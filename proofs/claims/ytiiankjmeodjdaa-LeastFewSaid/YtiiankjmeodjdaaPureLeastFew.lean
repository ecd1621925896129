/- The law LeastFew, as plain Lean: the least machine is no larger, takes the same words; and least.Same says whether the least machines are equal. Conditions: none beyond the kinds of the arguments. -/
import Derived.Test.YtiiankjmeodjdaaPESmall
import Derived.Test.YtiiankjmeodjdaaPEGood
import Derived.Test.YtiiankjmeodjdaaGE16
namespace Go.Proofs.Ytiiankjmeodjdaa.Pure
set_option linter.unusedVariables false
set_option linter.unusedSimpArgs false
open Go.RowKit Go.Proofs.Ytiiankjmeodjdaa.GE Go.Proofs.Ytiiankjmeodjdaa.PEM Go.Proofs.YtiiankjmeodjdaaW.PrintWords Go.Proofs.YtiiankjmeodjdaaW.PrintLast Go.Proofs.YtiiankjmeodjdaaW.PrintMore

theorem ints_loop (a b : List Int) (hl : a.length = b.length) (hb : a.length ≤ 1000) : ∀ (d i : Nat), i + d = a.length → Ev (fun q => coppicerref_Ints.l0 q a b (i : Int)) (decide (a.drop i = b.drop i)) := by
  intro d
  induction d with
  | zero =>
    intro i hi
    rw [List.drop_eq_nil_of_le (by omega), List.drop_eq_nil_of_le (by omega)]
    refine Ev.step (fun q => by rw [coppicerref_Ints.l0]) ?_
    refine Ev.neg (by omega) ?_
    exact Ev.now _
  | succ d ih =>
    intro i hi
    rw [drop_cons (l := a) (by omega) 0, drop_cons (l := b) (by omega) 0]
    refine Ev.step (fun q => by rw [coppicerref_Ints.l0]) ?_
    refine Ev.pos (by omega) ?_
    refine Ev.pos (by omega) ?_
    refine Ev.pos (by omega) ?_
    rw [rd_nat, rd_nat, w64 (n := (i : Int) + 1) (by omega) (by omega)]
    by_cases c : a.getD i 0 = b.getD i 0
    · refine Ev.pos c ?_
      have := ih (i + 1) (by omega)
      rw [show decide (a.getD i 0 :: a.drop (i + 1) = b.getD i 0 :: b.drop (i + 1)) = decide (a.drop (i + 1) = b.drop (i + 1)) by rw [decide_eq_decide, c]; simp]
      exact this
    · refine Ev.neg c (Ev.val ?_)
      rw [decide_eq_false (fun h => c (by injection h))]
theorem ints_spec (a b : List Int) (hb : a.length ≤ 1000) : Ev (fun q => coppicerref_Ints.f q a b) (decide (a = b)) := by
  refine Ev.congr (fun q => by rw [coppicerref_Ints.f]) ?_
  by_cases c : (a.length : Int) = (b.length : Int)
  · refine Ev.pos c ?_
    have := ints_loop a b (by omega) hb a.length 0 (by omega)
    rw [List.drop_zero, List.drop_zero] at this
    exact this
  · refine Ev.neg c (Ev.val ?_)
    rw [decide_eq_false (fun h => c (by rw [h]))]
theorem lists_loop (a b : List (List Int)) (hl : a.length = b.length) (hb : a.length ≤ 1000) (hr : ∀ l ∈ a, l.length ≤ 1000) : ∀ (d i : Nat), i + d = a.length → Ev (fun q => coppicerref_Lists.l0 q a b (i : Int)) (decide (a.drop i = b.drop i)) := by
  intro d
  induction d with
  | zero =>
    intro i hi
    rw [List.drop_eq_nil_of_le (by omega), List.drop_eq_nil_of_le (by omega)]
    refine Ev.step (fun q => by rw [coppicerref_Lists.l0]) ?_
    refine Ev.neg (by omega) ?_
    exact Ev.now _
  | succ d ih =>
    intro i hi
    have hlt : i < a.length := by omega
    rw [drop_cons (l := a) (by omega) [], drop_cons (l := b) (by omega) []]
    refine Ev.step (fun q => by rw [coppicerref_Lists.l0]) ?_
    refine Ev.pos (by omega) ?_
    refine Ev.pos (by omega) ?_
    refine Ev.pos (by omega) ?_
    rw [rdL_nat, rdL_nat, w64 (n := (i : Int) + 1) (by omega) (by omega)]
    refine Ev.bind (ints_spec (a.getD i []) (b.getD i []) (hr _ (getD_mem hlt))) ?_
    by_cases c : a.getD i [] = b.getD i []
    · refine Ev.pos (by simpa using c) ?_
      have := ih (i + 1) (by omega)
      rw [show decide (a.getD i [] :: a.drop (i + 1) = b.getD i [] :: b.drop (i + 1)) = decide (a.drop (i + 1) = b.drop (i + 1)) by rw [decide_eq_decide, c]; simp]
      exact this
    · refine Ev.neg (by simpa using c) (Ev.val ?_)
      rw [decide_eq_false (fun h => c (by injection h))]
theorem lists_spec (a b : List (List Int)) (hb : a.length ≤ 1000) (hr : ∀ l ∈ a, l.length ≤ 1000) : Ev (fun q => coppicerref_Lists.f q a b) (decide (a = b)) := by
  refine Ev.congr (fun q => by rw [coppicerref_Lists.f]) ?_
  by_cases c : (a.length : Int) = (b.length : Int)
  · refine Ev.pos c ?_
    have := lists_loop a b (by omega) hb hr a.length 0 (by omega)
    rw [List.drop_zero, List.drop_zero] at this
    exact this
  · refine Ev.neg c (Ev.val ?_)
    rw [decide_eq_false (fun h => c (by rw [h]))]
theorem same_loop (a b : List (List Int)) (n1 k1 s1 f1 n2 k2 s2 f2 : Int) (hn : n1 = a.length) (hl : a.length = b.length) (hb : a.length ≤ 1000) (hr : ∀ l ∈ a, l.length ≤ 1000) : ∀ (d i : Nat) (t : Bool), i + d = a.length →
    Ev (fun q => least_Same.l0 q t (i : Int) n1 k1 a s1 f1 n2 k2 b s2 f2) (t && decide (a.drop i = b.drop i), 0) := by
  intro d
  induction d with
  | zero =>
    intro i t hi
    rw [List.drop_eq_nil_of_le (by omega), List.drop_eq_nil_of_le (by omega)]
    refine Ev.step (fun q => by rw [least_Same.l0]) ?_
    refine Ev.neg (by omega) (Ev.val ?_)
    simp
  | succ d ih =>
    intro i t hi
    have hlt : i < a.length := by omega
    rw [drop_cons (l := a) (by omega) [], drop_cons (l := b) (by omega) []]
    refine Ev.step (fun q => by rw [least_Same.l0]) ?_
    refine Ev.pos (by omega) ?_
    cases t with
    | false =>
      refine Ev.neg (by decide) (Ev.val ?_)
      simp
    | true =>
      refine Ev.pos rfl ?_
      refine Ev.pos (by omega) ?_
      refine Ev.pos (by omega) ?_
      refine Ev.pos (by omega) ?_
      rw [rdL_nat, rdL_nat, w64 (n := (i : Int) + 1) (by omega) (by omega)]
      refine Ev.bind (equal_spec (a.getD i []) (b.getD i []) (hr _ (getD_mem hlt))) ?_
      have := ih (i + 1) (decide (a.getD i [] = b.getD i [])) (by omega)
      refine Ev.eq this ?_
      by_cases c : a.getD i [] = b.getD i []
      · simp [c]
      · simp [c]
theorem LeastFew : coppicerkeep_LeastFew.Pure := by
  intro n k nx st f n2 k2 nx2 st2 g w _ _ _ _ wf _ _ _ _ wg _
  obtain ⟨f0, f1⟩ := wf_u32 wf
  obtain ⟨g0, g1⟩ := wf_u32 wg
  have f1' : f < 4294967296 := by omega
  have g1' : g < 4294967296 := by omega
  obtain ⟨e1, he1, hi1⟩ := check_spec (n := n) (k := k) (nx := nx) (s := st) f0 f1'
  obtain ⟨e2, he2, hi2⟩ := check_spec (n := n2) (k := k2) (nx := nx2) (s := st2) g0 g1'
  obtain ⟨r1, hr1, hj1⟩ := refcheck_spec (n := n) (k := k) (nx := nx) (s := st) f0 f1'
  obtain ⟨r2, hr2, hj2⟩ := refcheck_spec (n := n2) (k := k2) (nx := nx2) (s := st2) g0 g1'
  have least : ∀ {n k : Int} {nx : List (List Int)} {st f e : Int}, 0 ≤ f → f < 4294967296 → Ev (fun q => machine_Check.f q n k nx st f) e → (e = 0 ↔ GoodM n k nx st f) → ∃ r : Int × Int × List (List Int) × Int × Int × Int, r.2.2.2.2.2 = e ∧ Ev (fun q => least_Least.f q n k nx st f) r := by
    intro n k nx st f e f0 f1 he hi
    by_cases c : e = 0
    · obtain ⟨N, next, T, _, _, _, _, _, hs⟩ := Small_good (hi.1 c) f0 f1
      refine ⟨(N, k, next, 0, T, 0), c.symm, Ev.congr (fun q => by rw [least_Least.f]) ?_⟩
      refine Ev.bind he ?_
      refine Ev.pos c ?_
      refine Ev.bind hs ?_
      exact Ev.now _
    · refine ⟨(0, 0, [], 0, 0, e), rfl, Ev.congr (fun q => by rw [least_Least.f]) ?_⟩
      refine Ev.bind he ?_
      refine Ev.neg c ?_
      exact Ev.now _
  refine Ev.rounds ?_
  by_cases c : GoodM n k nx st f ∧ GoodM n2 k2 nx2 st2 g
  · obtain ⟨ga, gb⟩ := c
    obtain ⟨N, next, T, T0, T1, gN, hN, hw, hs⟩ := Small_good ga f0 f1'
    obtain ⟨M, next2, U, U0, U1, gM, hM, hw2, hs2⟩ := Small_good gb g0 g1'
    have hN1 := gN.n1
    have hN7 := gN.n7
    have hNl := gN.len
    have hMl := gM.len
    have hk3 := gN.k3
    have hrow : ∀ l ∈ next, l.length ≤ 1000 := fun l hl => by have := gN.row l hl; omega
    have la : Ev (fun q => least_Least.f q n k nx st f) (N, k, next, 0, T, 0) := by
      refine Ev.congr (fun q => by rw [least_Least.f]) ?_
      refine Ev.bind he1 ?_
      refine Ev.pos (hi1.2 ga) ?_
      refine Ev.bind hs ?_
      exact Ev.now _
    have lb : Ev (fun q => least_Least.f q n2 k2 nx2 st2 g) (M, k2, next2, 0, U, 0) := by
      refine Ev.congr (fun q => by rw [least_Least.f]) ?_
      refine Ev.bind he2 ?_
      refine Ev.pos (hi2.2 gb) ?_
      refine Ev.bind hs2 ?_
      exact Ev.now _
    have j2 : Ev (fun q => coppicerkeep_LeastFew.j2 q n k nx st f n2 k2 nx2 st2 g N k next 0 T M k2 next2 0 U) true := by
      refine Ev.step (fun q => by rw [coppicerkeep_LeastFew.j2]) ?_
      by_cases hk : k = k2
      · have hwr : Ev (fun q => least_wrong.f q n k nx st f n2 k2 nx2 st2 g) 0 := by
          refine Ev.congr (fun q => by rw [least_wrong.f]) ?_
          refine Ev.bind he1 ?_
          refine Ev.pos (hi1.2 ga) ?_
          refine Ev.bind he2 ?_
          refine Ev.pos (hi2.2 gb) ?_
          refine Ev.pos hk ?_
          exact Ev.now _
        have hsame : Ev (fun q => least_Same.f q n k nx st f n2 k2 nx2 st2 g) (decide (N = M ∧ T = U ∧ next = next2), 0) := by
          refine Ev.congr (fun q => by rw [least_Same.f]) ?_
          refine Ev.bind hwr ?_
          refine Ev.pos rfl ?_
          refine Ev.bind hs ?_
          refine Ev.bind hs2 ?_
          by_cases hNM : N = M
          · refine Ev.pos hNM ?_
            refine Ev.step (fun q => by rw [least_Same.j0]) ?_
            have := same_loop next next2 N k 0 T M k2 0 U (by omega) (by omega) (by omega) hrow next.length 0 (T == U) (by omega)
            refine Ev.eq this ?_
            rw [List.drop_zero, List.drop_zero]
            by_cases hTU : T = U
            · simp [hNM, hTU]
            · simp [hTU]
          · refine Ev.neg hNM ?_
            refine Ev.step (fun q => by rw [least_Same.j0]) ?_
            refine Ev.step (fun q => by rw [least_Same.l0]) ?_
            refine Ev.pos (show (0 : Int) < N by omega) ?_
            refine Ev.neg (by decide) (Ev.val ?_)
            simp [hNM]
        have hms : Ev (fun q => coppicerref_MachineSame.f q N k next 0 T M k2 next2 0 U) (decide (N = M ∧ T = U ∧ next = next2)) := by
          refine Ev.congr (fun q => by rw [coppicerref_MachineSame.f]) ?_
          by_cases hNM : N = M
          · refine Ev.pos hNM ?_
            refine Ev.pos hk ?_
            refine Ev.pos rfl ?_
            by_cases hTU : T = U
            · refine Ev.pos hTU ?_
              refine Ev.bind (lists_spec next next2 (by omega) hrow) (Ev.val ?_)
              simp [hNM, hTU]
            · refine Ev.neg hTU (Ev.val ?_)
              simp [hTU]
          · refine Ev.neg hNM (Ev.val ?_)
            simp [hNM]
        refine Ev.bind hsame ?_
        refine Ev.pos hk ?_
        refine Ev.pos rfl ?_
        refine Ev.bind hms (Ev.val ?_)
        simp
      · have hwr : Ev (fun q => least_wrong.f q n k nx st f n2 k2 nx2 st2 g) 3 := by
          refine Ev.congr (fun q => by rw [least_wrong.f]) ?_
          refine Ev.bind he1 ?_
          refine Ev.pos (hi1.2 ga) ?_
          refine Ev.bind he2 ?_
          refine Ev.pos (hi2.2 gb) ?_
          refine Ev.neg hk ?_
          exact Ev.now _
        have hsame : Ev (fun q => least_Same.f q n k nx st f n2 k2 nx2 st2 g) (false, 3) := by
          refine Ev.congr (fun q => by rw [least_Same.f]) ?_
          refine Ev.bind hwr ?_
          refine Ev.neg (by decide) ?_
          exact Ev.now _
        refine Ev.bind hsame ?_
        refine Ev.neg hk ?_
        exact Ev.now _
    refine Ev.congr (fun q => by rw [coppicerkeep_LeastFew.f]) ?_
    refine Ev.bind la ?_
    refine Ev.bind lb ?_
    refine Ev.bind hr1 ?_
    refine Ev.pos (hj1.2 ga) ?_
    refine Ev.bind hr2 ?_
    rw [hj2.2 gb]
    refine Ev.step (fun q => by rw [coppicerkeep_LeastFew.j0]) ?_
    refine Ev.neg (by decide) ?_
    refine Ev.pos rfl ?_
    refine Ev.pos rfl ?_
    refine Ev.neg (show ¬ N < 1 by omega) ?_
    refine Ev.neg (show ¬ N > n by omega) ?_
    refine Ev.step (fun q => by rw [coppicerkeep_LeastFew.j1]) ?_
    refine Ev.neg (by simpa using hM) ?_
    obtain ⟨b, hb, hbi⟩ := good_spec (n := n) (k := k) (nx := nx) (s := st) f0 f1' w
    refine Ev.bind hb ?_
    by_cases cb : b = true
    · refine Ev.pos cb ?_
      have gw := (hbi.1 cb).2
      refine Ev.bind (run_good ga f0 f1' w gw) ?_
      refine Ev.bind (run_good gN T0 T1 w gw) ?_
      refine Ev.pos rfl ?_
      refine Ev.pos rfl ?_
      refine Ev.neg ?_ j2
      show ¬ (bit f (leads nx st w) != bit T (leads next 0 w)) = true
      rw [hw w gw.2]
      simp
    · refine Ev.neg cb j2
  · obtain ⟨ra, ha, hla⟩ := least f0 f1' he1 hi1
    obtain ⟨rb, hb, hlb⟩ := least g0 g1' he2 hi2
    have fin : Ev (fun q => coppicerkeep_LeastFew.j0 q w ra.2.2.2.2.2 rb.2.2.2.2.2 true n k nx st f n2 k2 nx2 st2 g ra.1 ra.2.1 ra.2.2.1 ra.2.2.2.1 ra.2.2.2.2.1 rb.1 rb.2.1 rb.2.2.1 rb.2.2.2.1 rb.2.2.2.2.1) true := by
      refine Ev.step (fun q => by rw [coppicerkeep_LeastFew.j0]) ?_
      refine Ev.pos rfl ?_
      by_cases z : ra.2.2.2.2.2 = 0
      · refine Ev.pos z (Ev.val ?_)
        have : ¬ rb.2.2.2.2.2 = 0 := fun z2 => c ⟨hi1.1 (ha ▸ z), hi2.1 (hb ▸ z2)⟩
        simpa using this
      · exact Ev.neg z (Ev.now _)
    refine Ev.congr (fun q => by rw [coppicerkeep_LeastFew.f]) ?_
    refine Ev.bind hla ?_
    refine Ev.bind hlb ?_
    refine Ev.bind hr1 ?_
    by_cases z : r1 = 0
    · refine Ev.pos z ?_
      refine Ev.bind hr2 ?_
      have : ¬ r2 = 0 := fun z2 => c ⟨hj1.1 z, hj2.1 z2⟩
      rw [show (r2 != 0) = true by simpa using this]
      exact fin
    · refine Ev.neg z ?_
      exact fin
end Go.Proofs.Ytiiankjmeodjdaa.Pure
