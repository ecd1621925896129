/- The law EndsGrow, as plain Lean: a byte more behind a word brings as many words more as it has ends that did not stand in it. Conditions: none beyond the kinds of the arguments. -/
import Derived.Test.YtkalcljgcigdgaaPEDist
import Derived.Test.YtkalcljgcigdgaaGE10
namespace Go.Proofs.Ytkalcljgcigdgaa.Pure
set_option linter.unusedVariables false
set_option linter.unusedSimpArgs false
open Go.RowKit Go.Proofs.Ytkalcljgcigdgaa.GE Go.Proofs.Ytkalcljgcigdgaa.PEM Go.Proofs.YtkalcljgcigdgaaW.PrintWords Go.Proofs.YtkalcljgcigdgaaW.PrintLast Go.Proofs.YtkalcljgcigdgaaW.PrintMore

def sfx (x : List Int) (k : Nat) : List Int := x.drop (x.length - k)
theorem sfx_len {x : List Int} {k : Nat} (h : k ≤ x.length) : (sfx x k).length = k := by unfold sfx; rw [List.length_drop]; omega
theorem sfx_get {x : List Int} {k : Nat} (h : k ≤ x.length) (s : Nat) : (sfx x k).getD s 0 = x.getD (x.length - k + s) 0 := by
  unfold sfx
  simp [List.getD_eq_getElem?_getD, List.getElem?_drop]
theorem sub_iff {w t : List Int} : sub w t ↔ t ≠ [] ∧ ∃ p, p + t.length ≤ w.length ∧ ∀ s, s < t.length → t.getD s 0 = w.getD (p + s) 0 := by
  constructor
  · rintro ⟨h0, p, hp⟩
    rcases occ_iff.1 hp with ⟨h1, h2⟩ | h1
    · exact ⟨h0, p, h1, h2⟩
    · exact absurd h1 h0
  · rintro ⟨h0, p, h1, h2⟩
    exact ⟨h0, p, occ_iff.2 (.inl ⟨h1, h2⟩)⟩
theorem many_sub {w t : List Int} (h0 : t ≠ []) : 0 < many w t ↔ sub w t := by
  unfold many
  rw [List.length_pos_iff]
  constructor
  · intro h
    obtain ⟨p, hp⟩ := List.exists_mem_of_ne_nil _ h
    exact ⟨h0, p, (List.mem_filter.1 hp).2⟩
  · intro h e
    obtain ⟨p, hp, ht⟩ := sub_at h
    have : p ∈ (List.range w.length).filter (occB t w) := List.mem_filter.2 ⟨List.mem_range.2 hp, by unfold occB; exact decide_eq_true ht⟩
    rw [e] at this
    cases this
theorem ne_of_len {t : List Int} (h : 0 < t.length) : t ≠ [] := fun e => by rw [e] at h; simp at h
theorem get_app {w : List Int} {b : Int} {i : Nat} (h : i < w.length) : (w ++ [b]).getD i 0 = w.getD i 0 := by
  rw [List.getD_eq_getElem?_getD, List.getElem?_append_left h, ← List.getD_eq_getElem?_getD]
theorem grow {w : List Int} {b : Int} (hw : BytesL w) (hx : BytesL (w ++ [b])) {old : Nat} (h1 : old ≤ w.length + 1) (h2 : old = 0 ∨ sub w (sfx (w ++ [b]) old)) (h3 : ∀ k, old < k → k ≤ w.length + 1 → ¬ sub w (sfx (w ++ [b]) k)) :
    (words (w ++ [b])).length = (words w).length + (w.length + 1 - old) := by
  have hxl : (w ++ [b]).length = w.length + 1 := by simp
  have hM : ((List.range' (old + 1) (w.length + 1 - old)).map (sfx (w ++ [b]))).Nodup := by
    rw [List.Nodup, List.pairwise_map]
    refine List.Pairwise.imp_of_mem (fun {a c} ha hc hac => ?_) (List.nodup_range' (s := old + 1) (n := w.length + 1 - old) 1)
    rw [List.mem_range'_1] at ha hc
    intro e
    have e2 := congrArg List.length e
    rw [sfx_len (by omega), sfx_len (by omega)] at e2
    exact hac e2
  have hnd : (words w ++ (List.range' (old + 1) (w.length + 1 - old)).map (sfx (w ++ [b]))).Nodup := by
    rw [List.nodup_append]
    refine ⟨words_nodup hw, hM, fun t ht u hu e => ?_⟩
    subst e
    obtain ⟨k, hk, rfl⟩ := List.mem_map.1 hu
    rw [List.mem_range'_1] at hk
    exact h3 k (by omega) (by omega) ((words_mem hw).1 ht)
  have := same_len (words_nodup hx) hnd (fun t => by
    rw [words_mem hx, List.mem_append, words_mem hw, List.mem_map]
    constructor
    · intro h
      obtain ⟨h0, p, hp, hs⟩ := sub_iff.1 h
      have hpos := List.length_pos_iff.2 h0
      rw [hxl] at hp
      have hsfx : p + t.length = w.length + 1 → t = sfx (w ++ [b]) t.length := fun e => by
        apply List.ext_getElem?
        intro s
        by_cases c : s < t.length
        · have e1 := hs s c
          rw [show p + s = (w ++ [b]).length - t.length + s by rw [hxl]; omega, ← sfx_get (by rw [hxl]; omega) s] at e1
          have hl : s < (sfx (w ++ [b]) t.length).length := by rw [sfx_len (by rw [hxl]; omega)]; exact c
          simp only [List.getD_eq_getElem?_getD] at e1
          rw [List.getElem?_eq_getElem c, List.getElem?_eq_getElem hl] at e1 ⊢
          simp only [Option.getD_some] at e1
          rw [e1]
        · rw [List.getElem?_eq_none (by omega), List.getElem?_eq_none (by rw [sfx_len (by rw [hxl]; omega)]; omega)]
      by_cases c : p + t.length ≤ w.length
      · exact .inl (sub_iff.2 ⟨h0, p, c, fun s hs2 => by rw [hs s hs2, get_app (by omega)]⟩)
      · have e := hsfx (by omega)
        by_cases c2 : old < t.length
        · exact .inr ⟨t.length, by rw [List.mem_range'_1]; omega, e.symm⟩
        · left
          rcases h2 with h2 | h2
          · omega
          · obtain ⟨g0, q, g1, g2⟩ := sub_iff.1 h2
            rw [sfx_len (by rw [hxl]; omega)] at g1 g2
            refine sub_iff.2 ⟨h0, q + (old - t.length), by omega, fun s hs2 => ?_⟩
            have k1 := g2 (old - t.length + s) (by omega)
            rw [sfx_get (by rw [hxl]; omega), hxl] at k1
            have k2 : t.getD s 0 = (w ++ [b]).getD ((w ++ [b]).length - t.length + s) 0 := by
              conv => lhs; rw [e]
              exact sfx_get (by rw [hxl]; omega) s
            rw [k2, hxl, show w.length + 1 - t.length + s = w.length + 1 - old + (old - t.length + s) by omega, k1, show q + (old - t.length + s) = q + (old - t.length) + s by omega]
    · rintro (h | ⟨k, hk, rfl⟩)
      · obtain ⟨h0, p, hp, hs⟩ := sub_iff.1 h
        exact sub_iff.2 ⟨h0, p, by rw [hxl]; omega, fun s hs2 => by rw [hs s hs2, get_app (by omega)]⟩
      · rw [List.mem_range'_1] at hk
        have hl : (sfx (w ++ [b]) k).length = k := sfx_len (by rw [hxl]; omega)
        exact sub_iff.2 ⟨ne_of_len (by rw [hl]; omega), w.length + 1 - k, by rw [hl, hxl]; omega, fun s hs => by rw [sfx_get (by rw [hxl]; omega), hxl]⟩)
  rw [this, List.length_append, List.length_map, List.length_range']
theorem grow_loop {w : List Int} {b : Int} (hw : BytesL w) (hx : BytesL (w ++ [b])) (hl : w.length ≤ 59) : ∀ (d i old : Nat), i + d = w.length + 2 → 1 ≤ i → old < i → (old = 0 ∨ sub w (sfx (w ++ [b]) old)) → (∀ k, old < k → k < i → ¬ sub w (sfx (w ++ [b]) k)) →
    Ev (fun q => coppicerkeep_EndsGrow.l0 q w (w ++ [b]) ((words w).length : Int) 0 ((words (w ++ [b])).length : Int) 0 (old : Int) (i : Int)) true := by
  have hxl : (w ++ [b]).length = w.length + 1 := by simp
  intro d
  induction d with
  | zero =>
    intro i old hi h1 ho h2 h3
    have hg := grow hw hx (old := old) (by omega) h2 (fun k k1 k2 => h3 k k1 (by omega))
    refine Ev.step (fun q => by rw [coppicerkeep_EndsGrow.l0]) (Ev.neg (by rw [hxl]; omega) (Ev.pos rfl (Ev.pos rfl (Ev.eq (Ev.now _) ?_))))
    rw [hg, hxl, beq_iff_eq]
    congr 1
    omega
  | succ d ih =>
    intro i old hi h1 ho h2 h3
    have hc := count_spec hw (u := sfx (w ++ [b]) i) (fun z hz => hx z (List.mem_of_mem_drop hz))
    have hsl : (sfx (w ++ [b]) i).length = i := sfx_len (by rw [hxl]; omega)
    have hne : sfx (w ++ [b]) i ≠ [] := ne_of_len (by rw [hsl]; omega)
    rw [if_neg (by rw [hsl]; omega), if_neg hne] at hc
    have hm := many_sub (w := w) hne
    have ew : wrap64 (((w ++ [b]).length : Int) - (i : Int)) = ((w.length + 1 - i : Nat) : Int) := by rw [hxl, w64 (by omega) (by omega)]; omega
    have ew2 : wrap64 ((i : Int) + 1) = ((i + 1 : Nat) : Int) := by rw [w64 (by omega) (by omega)]; rfl
    have es : (w ++ [b]).drop (w.length + 1 - i) = sfx (w ++ [b]) i := by unfold sfx; rw [hxl]
    refine Ev.step (fun q => by rw [coppicerkeep_EndsGrow.l0]) ?_
    rw [ew, ew2, Int.toNat_natCast, es]
    clear ew ew2
    refine Ev.pos (by rw [hxl]; omega) (Ev.pos (by omega) (Ev.pos (by rw [hxl]; omega) (Ev.bind hc (Ev.pos rfl ?_))))
    by_cases c : 0 < many w (sfx (w ++ [b]) i)
    · exact Ev.pos (by omega) (ih (i + 1) i (by omega) (by omega) (by omega) (.inr (hm.1 c)) (fun k k1 k2 => by omega))
    · refine Ev.neg (by omega) (ih (i + 1) old (by omega) (by omega) (by omega) h2 (fun k k1 k2 hk => ?_))
      by_cases e : k = i
      · subst e; exact c (hm.2 hk)
      · exact h3 k k1 (by omega) hk
theorem EndsGrow : coppicerkeep_EndsGrow.Pure := by
  intro w b hw hb
  have bw : BytesL w := fun x hx => wf_u8 (hw.2.2 x hx)
  have hb := wf_u8 hb
  have bx : BytesL (w ++ [b]) := fun x hx => by
    rcases List.mem_append.1 hx with h | h
    · exact bw x h
    · simp at h; omega
  have hxl : (w ++ [b]).length = w.length + 1 := by simp
  have d1 := different_spec bw
  have d2 := different_spec bx
  have hlon := lon_spec [w ++ [b]] (by simp)
  have ha : any60 [w ++ [b]] = decide (60 < w.length + 1) := by simp [any60]
  rw [ha] at hlon
  refine Ev.rounds ?_
  unfold coppicerkeep_EndsGrow.f
  have hlim := hw.2.1
  refine Ev.let_ (Ev.pos (by simp only [List.length_nil]; omega) (Ev.let_ ?_))
  rw [List.nil_append]
  refine Ev.pos (by omega) (Ev.let_ (Ev.bind d1 (Ev.bind d2 (Ev.bind hlon ?_))))
  by_cases h : 60 < w.length + 1
  · rw [if_pos (show 60 < (w ++ [b]).length by omega)]
    exact Ev.pos (decide_eq_true h) (Ev.now _)
  · rw [if_neg (show ¬ 60 < (w ++ [b]).length by omega), if_neg (show ¬ 60 < w.length by omega)]
    exact Ev.neg (by simpa using h) (grow_loop bw bx (by omega) (w.length + 1) 1 0 (by omega) (by omega) (by omega) (.inl rfl) (fun k k1 k2 => by omega))

end Go.Proofs.Ytkalcljgcigdgaa.Pure
