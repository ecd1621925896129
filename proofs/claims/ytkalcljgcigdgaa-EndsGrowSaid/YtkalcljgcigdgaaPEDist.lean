/- ends.Different over lists: how many words stand in a word, in plain Lean. Conditions: none. -/
import Derived.Test.YtkalcljgcigdgaaPEOcc
import Derived.Test.YtkalcljgcigdgaaGE9
namespace Go.Proofs.Ytkalcljgcigdgaa.PEM
set_option linter.unusedVariables false
set_option linter.unusedSimpArgs false
open Go.RowKit Go.Proofs.Ytkalcljgcigdgaa.GE Go.Proofs.YtkalcljgcigdgaaW.PrintWords Go.Proofs.YtkalcljgcigdgaaW.PrintLast Go.Proofs.YtkalcljgcigdgaaW.PrintMore

theorem take_lcp : ∀ {a b : List Int} {m : Nat}, m ≤ lcpL a b → a.take m = b.take m
  | _, _, 0, _ => rfl
  | [], _, m + 1, h => by simp [lcpL] at h
  | _ :: _, [], m + 1, h => by simp [lcpL] at h
  | x :: a, y :: b, m + 1, h => by
    simp only [lcpL] at h
    by_cases e : x = y
    · rw [if_pos e] at h
      rw [List.take_succ_cons, List.take_succ_cons, e, take_lcp (by omega : m ≤ lcpL a b)]
    · rw [if_neg e] at h; omega
theorem le_lcp : ∀ {a b : List Int} {m : Nat}, m ≤ a.length → m ≤ b.length → a.take m = b.take m → m ≤ lcpL a b
  | _, _, 0, _, _, _ => Nat.zero_le _
  | [], _, m + 1, h, _, _ => by simp at h
  | _ :: _, [], m + 1, _, h, _ => by simp at h
  | x :: a, y :: b, m + 1, h1, h2, h => by
    rw [List.take_succ_cons, List.take_succ_cons] at h
    injection h with e h
    simp only [lcpL]
    rw [if_pos e]
    have := le_lcp (a := a) (b := b) (m := m) (by simpa using h1) (by simpa using h2) h
    omega
/-- The end of w that stands at the rank r. -/
def sufx (w l : List Int) (r : Nat) : List Int := w.drop (l.getD r 0).toNat
/-- What an end has in common with the one ahead. -/
def cmn (w l : List Int) : Nat → Nat
  | 0 => 0
  | r + 1 => lcpL (sufx w l r) (sufx w l (r + 1))
/-- The words that an end begins with and the one ahead does not. -/
def grp (w l : List Int) (r : Nat) : List (List Int) := (List.range' (cmn w l r + 1) ((sufx w l r).length - cmn w l r)).map fun k => (sufx w l r).take k
def grps (w l : List Int) (m : Nat) : List (List Int) := (List.range m).flatMap (grp w l)
theorem grps_succ (w l : List Int) (m : Nat) : grps w l (m + 1) = grps w l m ++ grp w l m := by unfold grps; rw [List.range_succ, List.flatMap_append]; simp
theorem cmn_le (w l : List Int) (r : Nat) : cmn w l r ≤ (sufx w l r).length := by
  cases r with
  | zero => exact Nat.zero_le _
  | succ r =>
    show lcpL (sufx w l r) (sufx w l (r + 1)) ≤ _
    rw [lcp_comm]; exact lcp_le_left _ _
theorem mem_grp {w l : List Int} {r : Nat} {t : List Int} : t ∈ grp w l r ↔ cmn w l r < t.length ∧ t.length ≤ (sufx w l r).length ∧ (sufx w l r).take t.length = t := by
  unfold grp
  rw [List.mem_map]
  constructor
  · rintro ⟨k, hk, rfl⟩
    rw [List.mem_range'_1] at hk
    have := cmn_le w l r
    have hl : ((sufx w l r).take k).length = k := by rw [List.length_take]; omega
    rw [hl]
    exact ⟨by omega, by omega, rfl⟩
  · rintro ⟨h1, h2, h3⟩
    exact ⟨t.length, by rw [List.mem_range'_1]; omega, h3⟩
theorem grp_nodup (w l : List Int) (r : Nat) : (grp w l r).Nodup := by
  unfold grp
  have h := List.nodup_range' (s := cmn w l r + 1) (n := (sufx w l r).length - cmn w l r) 1
  rw [List.Nodup, List.pairwise_map]
  refine List.Pairwise.imp_of_mem (fun {a b} ha hb hab => ?_) h
  rw [List.mem_range'_1] at ha hb
  have := cmn_le w l r
  intro e
  have e2 := congrArg List.length e
  rw [List.length_take, List.length_take] at e2
  omega
theorem mem_grps {w l : List Int} {m : Nat} {t : List Int} : t ∈ grps w l m ↔ ∃ r, r < m ∧ t ∈ grp w l r := by
  unfold grps; rw [List.mem_flatMap]; simp [List.mem_range]
theorem asc_le {w l : List Int} (hO : OrdL w l) {r r' : Nat} (h : r ≤ r') (hn : r' < w.length) : sufx w l r = sufx w l r' ∨ lexL (sufx w l r) (sufx w l r') = true := by
  rcases Nat.lt_or_ge r r' with c | c
  · exact .inr (hO.asc r r' c hn)
  · obtain rfl : r = r' := by omega
    exact .inl rfl
theorem grps_nodup {w l : List Int} (hO : OrdL w l) : ∀ m, m ≤ w.length → (grps w l m).Nodup
  | 0, _ => by simp [grps]
  | m + 1, hm => by
    rw [grps_succ, List.nodup_append]
    refine ⟨grps_nodup hO m (by omega), grp_nodup w l m, fun t ht u hu e => ?_⟩
    subst e
    obtain ⟨r, hr, ht⟩ := mem_grps.1 ht
    obtain ⟨a1, a2, a3⟩ := mem_grp.1 ht
    obtain ⟨b1, b2, b3⟩ := mem_grp.1 hu
    cases m with
    | zero => omega
    | succ m =>
      have h1 : t.length ≤ lcpL (sufx w l r) (sufx w l (m + 1)) := le_lcp a2 b2 (by rw [a3, b3])
      have h2 := lcp_mid (asc_le hO (r := r) (r' := m) (by omega) (by omega)) (hO.asc m (m + 1) (by omega) (by omega))
      have h3 : cmn w l (m + 1) = lcpL (sufx w l m) (sufx w l (m + 1)) := rfl
      have h4 : lcpL (sufx w l r) (sufx w l (m + 1)) ≤ lcpL (sufx w l m) (sufx w l (m + 1)) := h2
      omega
/-- Does t, that is not empty, stand in w? -/
def sub (w t : List Int) : Prop := t ≠ [] ∧ ∃ p, occB t w p = true
theorem sub_at {w t : List Int} (h : sub w t) : ∃ p, p < w.length ∧ (w.drop p).take t.length = t := by
  obtain ⟨h0, p, hp⟩ := h
  rcases occ_iff.1 hp with ⟨h1, _⟩ | h1
  · have := List.length_pos_iff.2 h0
    exact ⟨p, by omega, by simpa [occB] using hp⟩
  · exact absurd h1 h0
theorem mem_all {w l : List Int} (hO : OrdL w l) {t : List Int} : t ∈ grps w l w.length ↔ sub w t := by
  rw [mem_grps]
  constructor
  · rintro ⟨r, hr, ht⟩
    obtain ⟨a1, a2, a3⟩ := mem_grp.1 ht
    exact ⟨fun e => by rw [e] at a1; simp at a1, (l.getD r 0).toNat, by unfold occB; exact decide_eq_true a3⟩
  · intro h
    obtain ⟨p, hp, ht⟩ := sub_at h
    have h0 := List.length_pos_iff.2 h.1
    obtain ⟨k, hk, hlk⟩ := hO.all p hp
    -- the least rank
    have least : ∀ r, r < w.length → (sufx w l r).take t.length = t → ∃ r', r' < w.length ∧ t ∈ grp w l r' := by
      intro r
      induction r with
      | zero =>
        intro hr e
        refine ⟨0, hr, mem_grp.2 ⟨h0, ?_, e⟩⟩
        have := congrArg List.length e
        rw [List.length_take] at this
        omega
      | succ r ih =>
        intro hr e
        have hle : t.length ≤ (sufx w l (r + 1)).length := by
          have := congrArg List.length e
          rw [List.length_take] at this
          omega
        by_cases c : cmn w l (r + 1) < t.length
        · exact ⟨r + 1, hr, mem_grp.2 ⟨c, hle, e⟩⟩
        · have h3 : t.length ≤ lcpL (sufx w l r) (sufx w l (r + 1)) := by
            have h3 : cmn w l (r + 1) = lcpL (sufx w l r) (sufx w l (r + 1)) := rfl
            omega
          exact ih (by omega) (by rw [take_lcp h3]; exact e)
    refine least k hk ?_
    unfold sufx
    rw [hlk]
    exact ht
/-- Two lists without repetition that hold the same are as long. -/
theorem same_len {α : Type} {a b : List α} (ha : a.Nodup) (hb : b.Nodup) (h : ∀ x, x ∈ a ↔ x ∈ b) : a.length = b.length :=
  Nat.le_antisymm (ha.length_le_of_subset (fun x hx => (h x).1 hx)) (hb.length_le_of_subset (fun x hx => (h x).2 hx))
theorem grps_len (w l : List Int) : ∀ m, ((grps w l m).length : Int) = (((List.range m).map fun r => (sufx w l r).length).sum : Nat) - (((List.range m).map fun r => cmn w l r).sum : Nat)
  | 0 => by simp [grps]
  | m + 1 => by
    have ih := grps_len w l m
    have := cmn_le w l m
    rw [grps_succ, List.length_append, List.range_succ, List.map_append, List.map_append, List.sum_append_nat, List.sum_append_nat]
    simp only [List.map_cons, List.map_nil, List.sum_cons, List.sum_nil, Nat.add_zero]
    have hg : (grp w l m).length = (sufx w l m).length - cmn w l m := by unfold grp; rw [List.length_map, List.length_range']
    omega
theorem sum_desc (n : Nat) : ∀ m, m ≤ n → 2 * ((List.range m).map fun p => n - p).sum = m * (2 * n + 1 - m)
  | 0, _ => by simp
  | m + 1, h => by
    have ih := sum_desc n m (by omega)
    rw [List.range_succ, List.map_append, List.sum_append_nat]
    simp only [List.map_cons, List.map_nil, List.sum_cons, List.sum_nil, Nat.add_zero]
    rw [Nat.mul_add, ih]
    obtain ⟨d, rfl⟩ : ∃ d, n = m + 1 + d := ⟨n - m - 1, by omega⟩
    rw [show 2 * (m + 1 + d) + 1 - m = m + 2 * d + 3 by omega, show m + 1 + d - m = d + 1 by omega, show 2 * (m + 1 + d) + 1 - (m + 1) = m + 2 * d + 2 by omega]
    rw [show m + 2 * d + 3 = m + 2 * d + 2 + 1 by omega, Nat.mul_succ, Nat.add_mul m 1, Nat.one_mul]
    omega
theorem suf_sum {w : List Int} : ((List.range w.length).map fun r => (sufx w ((ends_order.fin w).map fun i => ((i.val : Nat) : Int)) r).length).sum = ((List.range w.length).map fun p => w.length - p).sum := by
  have hp := order_perm w
  generalize ((ends_order.fin w).map fun i => ((i.val : Nat) : Int)) = l at *
  have hl : l.length = w.length := by have := hp.length_eq; simpa using this
  have h2 := (hp.map (fun x : Int => w.length - x.toNat)).sum_nat
  rw [List.map_map] at h2
  have e1 : ((List.range w.length).map fun r => (sufx w l r).length) = l.map (fun x : Int => w.length - x.toNat) := by
    apply List.ext_getElem
    · simp [hl]
    · intro i h3 h4
      simp [sufx, List.getD_eq_getElem?_getD, List.getElem?_eq_getElem (by simpa using h4 : i < l.length)]
  rw [e1, h2]
  rfl
theorem diff_loop (out : List Int) (ho : out.length ≤ 60) (hb : ∀ x ∈ out, 0 ≤ x ∧ x ≤ 60) : ∀ (d i : Nat) (x : Int), i + d = out.length → -10000 ≤ x - 60 * (d : Int) → x ≤ 10000 → Ev (fun k => ends_Different.l0 k x out (out.length : Int) (i : Int)) (x - (out.drop i).sum, 0) := by
  intro d
  induction d with
  | zero =>
    intro i x hi h1 h2
    refine Ev.step (fun k => by rw [ends_Different.l0]) (Ev.neg (by omega) (Ev.eq (Ev.now _) ?_))
    rw [List.drop_eq_nil_of_le (by omega)]; simp
  | succ d ih =>
    intro i x hi h1 h2
    have hil : i < out.length := by omega
    have hx := hb _ (getD_mem (xs := out) (i := i) (d := 0) hil)
    refine Ev.step (fun k => by rw [ends_Different.l0]) (Ev.pos (by omega) (Ev.pos (by omega) (Ev.pos (by omega) ?_)))
    rw [rd_nat, w64 (n := x - out.getD i 0) (by omega) (by omega), w64 (n := (i : Int) + 1) (by omega) (by omega)]
    have := ih (i + 1) (x - out.getD i 0) (by omega) (by omega) (by omega)
    have e : out.drop i = out.getD i 0 :: out.drop (i + 1) := by rw [List.drop_eq_getElem_cons hil, List.getD_eq_getElem?_getD, List.getElem?_eq_getElem hil, Option.getD_some]
    rw [e, List.sum_cons]
    exact Ev.eq this (by rw [Int.sub_sub])
theorem hx_spec {n S : Nat} (hn : n ≤ 60) (h : 2 * S = n * (n + 1)) : wrap64 (Int.tdiv (wrap64 ((n : Int) * (wrap64 ((n : Int) + 1)))) 2) = (S : Int) := by
  have hle : n * (n + 1) ≤ 60 * 61 := Nat.mul_le_mul (by omega) (by omega)
  have ec : ((n : Int) * ((n : Int) + 1)) = ((n * (n + 1) : Nat) : Int) := by rw [Int.natCast_mul]; rfl
  rw [w64 (n := (n : Int) + 1) (by omega) (by omega), ec]
  generalize n * (n + 1) = q at *
  rw [w64 (n := (q : Int)) (by omega) (by omega), td (by omega), w64 (by omega) (by omega)]
  omega
/-- The words in w, each once. -/
def words (w : List Int) : List (List Int) := grps w ((ends_order.fin w).map fun i => ((i.val : Nat) : Int)) w.length
theorem words_nodup {w : List Int} (hw : BytesL w) : (words w).Nodup := grps_nodup (fin_ord hw) _ (Nat.le_refl _)
theorem words_mem {w : List Int} (hw : BytesL w) {t : List Int} : t ∈ words w ↔ sub w t := mem_all (fin_ord hw)
set_option maxHeartbeats 1000000 in
theorem different_spec {w : List Int} (hw : BytesL w) : Ev (fun k => ends_Different.f k w) (if 60 < w.length then (0, 1) else (((words w).length : Int), 0)) := by
  unfold ends_Different.f
  by_cases h1 : 60 < w.length
  · rw [if_pos h1]; exact Ev.pos (by omega) (Ev.now _)
  rw [if_neg h1]
  have hO := fin_ord hw
  have hlen := grps_len w ((ends_order.fin w).map fun i => ((i.val : Nat) : Int)) w.length
  have hsuf := suf_sum (w := w)
  have hdesc := sum_desc w.length w.length (Nat.le_refl _)
  refine Ev.neg (by omega) (Ev.bindc (order_some (by omega)) ?_)
  unfold words
  generalize ((ends_order.fin w).map fun i => ((i.val : Nat) : Int)) = l at *
  obtain ⟨out, o1, o2, o3⟩ := common_spec hO (by omega)
  refine Ev.bind o1 ?_
  have hout : ∀ j, j < w.length - 1 → out.getD j 0 = (cmn w l (j + 1) : Int) := fun j hj => by
    have h4 := o3 (j + 1) (by omega) (by omega)
    rw [Nat.add_sub_cancel] at h4
    rw [h4]
    unfold comL
    rw [Nat.add_sub_cancel, lcp_comm]
    rfl
  have hlist : out = (List.range (w.length - 1)).map fun j => ((cmn w l (j + 1) : Nat) : Int) := by
    apply List.ext_getElem
    · simp [o2]
    · intro i h3 h4
      have := hout i (by omega)
      rw [List.getD_eq_getElem?_getD, List.getElem?_eq_getElem h3, Option.getD_some] at this
      rw [this]; simp
  have hb : ∀ x ∈ out, 0 ≤ x ∧ x ≤ 60 := by
    intro x hx
    rw [hlist] at hx
    obtain ⟨j, hj, rfl⟩ := List.mem_map.1 hx
    have h5 := cmn_le w l (j + 1)
    have h6 : (sufx w l (j + 1)).length ≤ w.length := by unfold sufx; rw [List.length_drop]; omega
    omega
  have hsum : out.sum = (((List.range w.length).map fun r => cmn w l r).sum : Nat) := by
    rw [hlist]
    have e3 : ∀ z : List Nat, (z.map fun j => ((cmn w l (j + 1) : Nat) : Int)).sum = (((z.map fun j => cmn w l (j + 1)).sum : Nat) : Int) := by
      intro z
      induction z with
      | nil => rfl
      | cons a z ih => rw [List.map_cons, List.sum_cons, ih, List.map_cons, List.sum_cons]; omega
    rw [e3]
    cases hn : w.length with
    | zero => rfl
    | succ n =>
      rw [Nat.add_sub_cancel, List.range_succ_eq_map, List.map_cons, List.sum_cons, List.map_map]
      show _ = ((0 + _ : Nat) : Int)
      rw [Nat.zero_add]
      rfl
  have hN : w.length * (2 * w.length + 1 - w.length) = w.length * (w.length + 1) := by rw [show 2 * w.length + 1 - w.length = w.length + 1 by omega]
  rw [hN] at hdesc
  obtain ⟨S, hS⟩ : ∃ S : Nat, ((List.range w.length).map fun p => w.length - p).sum = S := ⟨_, rfl⟩
  rw [hS] at hsuf hdesc
  have hle : w.length * (w.length + 1) ≤ 60 * 61 := Nat.mul_le_mul (by omega) (by omega)
  have hS0 : (S : Int) ≤ 2000 := by omega
  have ho60 : out.length ≤ 60 := by omega
  have hd := diff_loop out ho60 hb out.length 0 (S : Int) (by omega) (by omega) (by omega)
  rw [hx_spec (n := w.length) (S := S) (by omega) hdesc]
  refine Ev.eq hd ?_
  rw [List.drop_zero, hsum, hlen, hsuf]

end Go.Proofs.Ytkalcljgcigdgaa.PEM
