/- climb.Read and climb.Show by trees, in plain Lean. Conditions: none. -/
import Derived.Test.YthgiiikjcfhgjaaPCClimb
namespace Go.Proofs.Ythgiiikjcfhgjaa.PCM
set_option linter.unusedVariables false
set_option linter.unusedSimpArgs false
open Go.RowKit Go.Proofs.Ythgiiikjcfhgjaa.GC Go.Proofs.YthgiiikjcfhgjaaW.PrintWords Go.Proofs.YthgiiikjcfhgjaaW.PrintLast Go.Proofs.YthgiiikjcfhgjaaW.PrintMore

theorem top_nil : cR.top ([] : List Int).reverse = -1 := rfl
theorem top_cons (y : Int) (s : List Int) : cR.top (y :: s).reverse = y := by
  unfold cR.top
  rw [if_neg (by simp)]
  simp only [List.reverse_cons, List.length_append, List.length_reverse, List.length_singleton, rd]
  rw [show ((s.length + 1 : Nat) : Int) - 1 = (s.length : Nat) by omega, Int.toNat_natCast, List.getD_eq_getElem?_getD, List.getElem?_append_right (by simp)]
  simp
theorem take_cons (y : Int) (s : List Int) : (y :: s).reverse.take ((y :: s).reverse.length - 1) = s.reverse := by
  simp only [List.reverse_cons, List.length_append, List.length_reverse, List.length_singleton]
  rw [Nat.add_sub_cancel, List.take_append_of_le_length (by simp), List.take_of_length_le (by simp)]
theorem shut_sim : ∀ (s out : List Int), out.length + s.length < 1000 → Ev (fun q => cR.shutL q out s.reverse) ((shutP out s).1, (shutP out s).2.reverse)
  | [], out, h => by
    refine Ev.step (fun q => by rw [cR.shutL]) ?_
    exact Ev.pos top_nil (Ev.now _)
  | y :: s, out, h => by
    rw [List.length_cons] at h
    by_cases hy : y = -1
    · refine Ev.step (fun q => by rw [cR.shutL]) (Ev.pos (by rw [top_cons]; exact hy) ?_)
      rw [shutP, if_pos hy]
      exact Ev.now _
    · refine Ev.step (fun q => by rw [cR.shutL]) ?_
      refine Ev.neg (by rw [top_cons]; exact hy) ?_
      refine Ev.pos ⟨by omega, by simp⟩ ?_
      rw [shutP, if_neg hy, top_cons, take_cons]
      exact shut_sim s (out ++ [y]) (by rw [List.length_append, List.length_singleton]; omega)
theorem def_sim (ops : List S94) (x : Int) (hx : 0 ≤ x ∧ x < (ops.length : Int)) : ∀ (s out : List Int), out.length + s.length < 1000 → (∀ y ∈ s, y = -1 ∨ (0 ≤ y ∧ y < (ops.length : Int))) → Ev (fun q => cR.defL ops x q out s.reverse) ((defP (lvO ops) (rgO ops) x out s).1, (defP (lvO ops) (rgO ops) x out s).2.reverse)
  | [], out, h, _ => by
    refine Ev.step (fun q => by rw [cR.defL]) ?_
    exact Ev.pos top_nil (Ev.now _)
  | y :: s, out, h, hs => by
    rw [List.length_cons] at h
    by_cases hy : y = -1
    · refine Ev.step (fun q => by rw [cR.defL]) (Ev.pos (by rw [top_cons]; exact hy) ?_)
      rw [defP, if_pos hy]
      exact Ev.now _
    · have hyb : 0 ≤ y ∧ y < (ops.length : Int) := by rcases hs y List.mem_cons_self with c | c; exact absurd c hy; exact c
      refine Ev.step (fun q => by rw [cR.defL]) ?_
      refine Ev.neg (by rw [top_cons]; exact hy) ?_
      refine Ev.pos (by rw [top_cons]; exact ⟨hyb.1, hyb.2, hx.1, hx.2, by omega, by simp⟩) ?_
      rw [defP, if_neg hy, top_cons, take_cons]
      by_cases hm : moreT (lvO ops) (rgO ops) x y = true
      · rw [if_pos hm]
        exact Ev.pos (by rw [more_is]; exact hm) (def_sim ops x hx s (out ++ [y]) (by rw [List.length_append, List.length_singleton]; omega) (fun z hz => hs z (List.mem_cons_of_mem _ hz)))
      · rw [if_neg hm]
        exact Ev.neg (by rw [more_is]; exact hm) (Ev.now _)
theorem end_sim : ∀ (s out : List Int), out.length + s.length < 1000 → Ev (fun q => cR.endL q out s.reverse) (out ++ s)
  | [], out, h => by
    refine Ev.step (fun q => by rw [cR.endL]) ?_
    refine Ev.pos rfl ?_
    rw [List.append_nil]
    exact Ev.now _
  | y :: s, out, h => by
    rw [List.length_cons] at h
    refine Ev.step (fun q => by rw [cR.endL]) (Ev.neg (by simp) (Ev.pos (by omega) ?_))
    rw [top_cons, take_cons]
    have := end_sim s (out ++ [y]) (by rw [List.length_append, List.length_singleton]; omega)
    simpa using this
theorem shut_len : ∀ (s out : List Int), (shutP out s).1.length + (shutP out s).2.length = out.length + s.length
  | [], out => rfl
  | y :: s, out => by
    rw [shutP]
    split
    · rfl
    · rw [shut_len s]; simp; omega
theorem def_len (lv : Int → Int) (rg : Int → Bool) (x : Int) : ∀ (s out : List Int), (defP lv rg x out s).1.length + (defP lv rg x out s).2.length = out.length + s.length
  | [], out => rfl
  | y :: s, out => by
    rw [defP]
    split
    · rfl
    · split
      · rw [def_len lv rg x s]; simp; omega
      · rfl
theorem shut_mem : ∀ (s out : List Int), (∀ z ∈ (shutP out s).2, z ∈ s) ∧ (-1 ∈ s → (shutP out s).2 ≠ []) ∧ (∀ s', (shutP out s).2 = -1 :: s' → s.count (-1) = s'.count (-1) + 1) ∧ ((shutP out s).2 ≠ [] → ∃ s', (shutP out s).2 = -1 :: s')
  | [], out => ⟨fun z h => h, fun h => (by cases h), fun s' h => (by cases h), fun h => absurd rfl h⟩
  | y :: s, out => by
    rw [shutP]
    by_cases hy : y = -1
    · rw [if_pos hy]
      subst hy
      refine ⟨fun z h => h, fun _ h => (by cases h), fun s' h => ?_, fun _ => ⟨s, rfl⟩⟩
      obtain ⟨_, rfl⟩ := List.cons.inj h
      simp
    · rw [if_neg hy]
      obtain ⟨a, b, c, d⟩ := shut_mem s (out ++ [y])
      exact ⟨fun z h => List.mem_cons_of_mem _ (a z h), fun h => b (by rcases List.mem_cons.1 h with e | e; exact absurd e.symm hy; exact e), fun s' h => by rw [List.count_cons_of_ne (by simpa using hy)]; exact c s' h, d⟩
theorem def_mem (lv : Int → Int) (rg : Int → Bool) (x : Int) : ∀ (s out : List Int), (∀ z ∈ (defP lv rg x out s).2, z ∈ s) ∧ ((∀ z ∈ s, z = -1 → True) → (defP lv rg x out s).2.count (-1) = s.count (-1))
  | [], out => ⟨fun z h => h, fun _ => rfl⟩
  | y :: s, out => by
    rw [defP]
    by_cases hy : y = -1
    · rw [if_pos hy]; exact ⟨fun z h => h, fun _ => rfl⟩
    · rw [if_neg hy]
      split
      · obtain ⟨a, b⟩ := def_mem lv rg x s (out ++ [y])
        exact ⟨fun z h => List.mem_cons_of_mem _ (a z h), fun _ => by rw [List.count_cons_of_ne (by simpa using hy)]; exact b (fun _ _ _ => trivial)⟩
      · exact ⟨fun z h => h, fun _ => rfl⟩
def resT : Option (List Int) → List Int × Int
  | some o => (o, 0)
  | none => ([], 5)
theorem read_sim (ops : List S94) (l : List Int) (hl : l.length ≤ 60) (hs : ∀ x ∈ l, signOk ops.length true x) (hn : ops.length ≤ 6) : ∀ (d i : Nat), i + d = l.length → ∀ (out s : List Int) (deep : Int) (done : Bool), out.length + s.length ≤ i → deep = (s.count (-1) : Int) → (∀ y ∈ s, y = -1 ∨ (0 ≤ y ∧ y < (ops.length : Int))) → Ev (fun q => cR.readL ops l q i out s.reverse deep done) (resT (readP (lvO ops) (rgO ops) (l.drop i) out s deep done)) := by
  intro d
  induction d with
  | zero =>
    intro i hi out s deep done hlen hd hm
    refine Ev.step (fun q => by rw [cR.readL]) (Ev.neg (by omega) ?_)
    rw [List.drop_eq_nil_of_le (by omega), readP]
    by_cases hc : done = false ∨ deep > 0
    · rw [if_pos hc]; exact Ev.pos hc (Ev.now _)
    · rw [if_neg hc]
      refine Ev.neg hc ?_
      obtain ⟨K, hK⟩ := end_sim s out (by omega)
      exact ⟨K, fun k hk => by show (cR.endL k out s.reverse).map _ = _; rw [show cR.endL k out s.reverse = some (out ++ s) from hK k hk]; rfl⟩
  | succ d ih =>
    intro i hi out s deep done hlen hd hm
    have hlt : i < l.length := by omega
    have hcount : s.count (-1) ≤ s.length := List.count_le_length
    refine Ev.step (fun q => by rw [cR.readL]) (Ev.pos hlt ?_)
    have hxs := hs (l.getD i 0) (getD_mem hlt)
    rw [dropc hlt 0, rd_nat]
    generalize l.getD i 0 = x at hxs
    rw [readP]
    by_cases hc : done = (decide (x ≥ 100) || x == -1)
    · rw [if_pos hc]; exact Ev.pos hc (Ev.now _)
    · rw [if_neg hc]
      refine Ev.neg hc (Ev.neg (fun h => h ⟨by omega, by rw [List.length_reverse]; omega, by omega, by omega⟩) ?_)
      by_cases h1 : x ≥ 100
      · rw [if_pos h1]
        exact Ev.pos h1 (ih (i + 1) (by omega) _ s _ _ (by rw [List.length_append, List.length_singleton]; omega) hd hm)
      · rw [if_neg h1]
        refine Ev.neg h1 ?_
        by_cases h2 : x = -1
        · rw [if_pos h2]
          refine Ev.pos h2 ?_
          have := ih (i + 1) (by omega) out (x :: s) (deep + 1) done (by rw [List.length_cons]; omega) (by rw [h2]; simp; omega) (fun y hy => by rcases List.mem_cons.1 hy with c | c; exact .inl (c.trans h2); exact hm y c)
          rw [List.reverse_cons] at this
          exact this
        · rw [if_neg h2]
          refine Ev.neg h2 ?_
          by_cases h3 : x = -2
          · rw [if_pos h3]
            refine Ev.pos h3 ?_
            by_cases h4 : deep - 1 < 0
            · rw [if_pos h4]; exact Ev.pos h4 (Ev.now _)
            · rw [if_neg h4]
              refine Ev.neg h4 (Ev.bind (shut_sim s out (by omega)) ?_)
              have hmem := shut_mem s out
              have hl2 := shut_len s out
              have hin : -1 ∈ s := List.count_pos_iff.1 (by omega)
              obtain ⟨s', hs'⟩ := hmem.2.2.2 (hmem.2.1 hin)
              have hcn := hmem.2.2.1 s' hs'
              simp only []
              rw [hs']
              refine Ev.pos (by simp) ?_
              rw [take_cons, List.tail_cons]
              rw [hs', List.length_cons] at hl2
              exact ih (i + 1) (by omega) _ s' _ _ (by omega) (by omega) (fun y hy => hm y (hmem.1 y (by rw [hs']; exact List.mem_cons_of_mem _ hy)))
          · rw [if_neg h3]
            have hxx : 0 ≤ x ∧ x < (ops.length : Int) := by unfold signOk at hxs; omega
            refine Ev.neg h3 (Ev.bind (def_sim ops x hxx s out (by omega) hm) ?_)
            have hmem := def_mem (lvO ops) (rgO ops) x s out
            have hl2 := def_len (lvO ops) (rgO ops) x s out
            simp only []
            refine Ev.pos (by rw [List.length_reverse]; omega) ?_
            have := ih (i + 1) (by omega) (defP (lvO ops) (rgO ops) x out s).1 (x :: (defP (lvO ops) (rgO ops) x out s).2) deep false (by rw [List.length_cons]; omega) (by rw [List.count_cons_of_ne (by simpa using h2), hmem.2 (fun _ _ _ => trivial)]; exact hd) (fun y hy => by rcases List.mem_cons.1 hy with c | c; (subst c; exact .inr hxx); exact hm y (hmem.1 y c))
            rw [List.reverse_cons] at this
            exact this
theorem read_spec (ops : List S94) (l : List Int) : (Chk ops l true → Ev (fun q => climb_Read.f q ops l) (resT (readP (lvO ops) (rgO ops) l [] [] 0 false))) ∧ (¬ Chk ops l true → ∃ e, e ≠ 0 ∧ Ev (fun q => climb_Read.f q ops l) ([], e)) := by
  obtain ⟨e, hE, hiff⟩ := wrong_spec ops l true
  constructor
  · intro h
    refine Ev.congr (fun q => by rw [climb_Read.f]) (Ev.bind hE (Ev.pos (hiff.2 h) (Ev.pos (show l.length < 1000 from Nat.lt_of_le_of_lt h.len (by omega)) ?_)))
    have := read_sim ops l h.len h.signs h.n l.length 0 (by omega) [] [] 0 false (by simp) rfl (fun y hy => by cases hy)
    rw [List.drop_zero] at this
    exact this
  · intro h
    have he : e ≠ 0 := fun e0 => h (hiff.1 e0)
    exact ⟨e, he, Ev.congr (fun q => by rw [climb_Read.f]) (Ev.bind hE (Ev.neg he (Ev.now _)))⟩
/-! #### Show -/
def itemT (ops : List S94) (t : Tr) : S103 := ⟨t.signs (lvO ops) (rgO ops), t.last⟩
theorem mark_is (ops : List S94) (t : Tr) (x : Int) (r : Bool) : cS.mark ops (itemT ops t) x r = wrapT (markT (lvO ops) (rgO ops) t.last x r) (t.signs (lvO ops) (rgO ops)) := rfl
def sizeT : List Tr → Nat
  | [] => 0
  | t :: ts => t.post.length + sizeT ts
theorem signs_len (lv : Int → Int) (rg : Int → Bool) : ∀ t : Tr, (t.signs lv rg).length ≤ 5 * t.post.length
  | .val x => by simp [Tr.signs, Tr.post]
  | .op x a b => by
    have h1 := signs_len lv rg a
    have h2 := signs_len lv rg b
    simp only [Tr.signs, Tr.post, List.flatten_cons, List.flatten_nil, List.length_append, List.length_cons, List.length_nil, wrap_len]
    split <;> split <;> omega
theorem post_pos : ∀ t : Tr, 0 < t.post.length
  | .val x => by simp [Tr.post]
  | .op x a b => by simp only [Tr.post, List.length_append, List.length_singleton]; omega
theorem size_len : ∀ ts : List Tr, ts.length ≤ sizeT ts
  | [] => Nat.le_refl _
  | t :: ts => by have := size_len ts; have := post_pos t; rw [List.length_cons, sizeT]; omega
def showT (ops : List S94) : Option (List Tr) → List Int × Int
  | some [t] => if (t.signs (lvO ops) (rgO ops)).length > 60 then ([], 1) else (t.signs (lvO ops) (rgO ops), 0)
  | _ => ([], 5)
theorem rdS (xs : List S103) (i : Nat) : rd_T103 xs (i : Int) = xs.getD i z103 := by simp [rd_T103]
theorem show_sim (ops : List S94) (l : List Int) (hl : l.length ≤ 60) (hs : ∀ x ∈ l, signOk ops.length false x) (hn : ops.length ≤ 6) : ∀ (d i : Nat), i + d = l.length → ∀ (ts : List Tr), sizeT ts ≤ i → (∀ t ∈ ts, t.good ops.length) → Ev (fun q => cS.show ops l q i (ts.reverse.map (itemT ops))) (showT ops (buildT (l.drop i) ts)) := by
  intro d
  induction d with
  | zero =>
    intro i hi ts hsz hg
    refine Ev.step (fun q => by rw [cS.show]) (Ev.neg (by omega) ?_)
    rw [List.drop_eq_nil_of_le (by omega), buildT]
    match ts with
    | [] => exact Ev.pos (by simp) (Ev.now _)
    | [t] =>
      refine Ev.neg (by simp) ?_
      rw [showT]
      have e : rd_T103 ([t].reverse.map (itemT ops)) 0 = itemT ops t := rfl
      rw [e]
      by_cases hc : (t.signs (lvO ops) (rgO ops)).length > 60
      · rw [if_pos hc]; exact Ev.pos hc (Ev.now _)
      · rw [if_neg hc]; exact Ev.neg hc (Ev.now _)
    | a :: b :: ts => exact Ev.pos (by simp) (Ev.now _)
  | succ d ih =>
    intro i hi ts hsz hg
    have hlt : i < l.length := by omega
    have hsl := size_len ts
    refine Ev.step (fun q => by rw [cS.show]) (Ev.pos hlt ?_)
    have hxs := hs (l.getD i 0) (getD_mem hlt)
    rw [dropc hlt 0, rd_nat]
    generalize l.getD i 0 = x at hxs
    rw [buildT]
    by_cases h1 : x ≥ 100
    · rw [if_pos h1]
      refine Ev.pos h1 (Ev.pos (by simp; omega) ?_)
      have := ih (i + 1) (by omega) (.val x :: ts) (by simp only [sizeT, Tr.post, List.length_singleton]; omega) (fun t ht => by rcases List.mem_cons.1 ht with c | c; (subst c; exact h1); exact hg t c)
      rw [List.reverse_cons, List.map_append] at this
      exact this
    · rw [if_neg h1]
      refine Ev.neg h1 ?_
      have hxx : 0 ≤ x ∧ x < (ops.length : Int) := by
        rcases hxs with c | c | c
        · exact absurd c h1
        · exact c
        · cases c.1
      match ts, hsz, hg, hsl with
      | [], _, _, _ => exact Ev.pos (by simp) (Ev.now _)
      | [_], _, _, _ => exact Ev.pos (by simp) (Ev.now _)
      | b :: a :: ts, hsz, hg, hsl =>
        refine Ev.neg (by simp) ?_
        have hL : (((b :: a :: ts).reverse.map (itemT ops)).length : Int) = ((ts.length + 2 : Nat) : Int) := by simp
        rw [hL, show ((ts.length + 2 : Nat) : Int) - 2 = (ts.length : Nat) by omega, show ((ts.length + 2 : Nat) : Int) - 1 = ((ts.length + 1 : Nat) : Int) by omega, rdS, rdS]
        have hst : (b :: a :: ts).reverse.map (itemT ops) = ts.reverse.map (itemT ops) ++ [itemT ops a, itemT ops b] := by simp
        rw [hst]
        have ea : (ts.reverse.map (itemT ops) ++ [itemT ops a, itemT ops b]).getD ts.length z103 = itemT ops a := by
          rw [List.getD_eq_getElem?_getD, List.getElem?_append_right (by simp)]; simp
        have eb : (ts.reverse.map (itemT ops) ++ [itemT ops a, itemT ops b]).getD (ts.length + 1) z103 = itemT ops b := by
          rw [List.getD_eq_getElem?_getD, List.getElem?_append_right (by simp)]; simp
        rw [ea, eb, Int.toNat_natCast, List.take_append_of_le_length (by simp), List.take_of_length_le (by simp)]
        have ga := hg a (by simp)
        have gb := hg b (by simp)
        simp only [sizeT] at hsz
        have la := signs_len (lvO ops) (rgO ops) a
        have lb := signs_len (lvO ops) (rgO ops) b
        have hN0 : (0 : Int) < ops.length := by omega
        refine Ev.pos ⟨hxx, ⟨Tr.last_lt ga hN0, ?_⟩, ⟨Tr.last_lt gb hN0, ?_⟩, ?_⟩ ?_
        · show (a.signs (lvO ops) (rgO ops)).length < 1000; omega
        · show (b.signs (lvO ops) (rgO ops)).length < 1000; omega
        · rw [show (ts.reverse.map (itemT ops) ++ [itemT ops a, itemT ops b]).length = ts.length + 2 by simp]
          rw [List.length_cons, List.length_cons] at hsl
          have := size_len ts
          omega
        · have := ih (i + 1) (by omega) (.op x a b :: ts) (by simp only [sizeT, Tr.post, List.length_append, List.length_singleton]; omega) (fun t ht => by
            rcases List.mem_cons.1 ht with c | c
            · subst c; exact ⟨hxx, ga, gb⟩
            · exact hg t (by simp [c]))
          rw [List.reverse_cons, List.map_append] at this
          exact this
theorem show_spec (ops : List S94) (l : List Int) : (Chk ops l false → Ev (fun q => climb_Show.f q ops l) (showT ops (buildT l []))) ∧ (¬ Chk ops l false → ∃ e, e ≠ 0 ∧ Ev (fun q => climb_Show.f q ops l) ([], e)) := by
  obtain ⟨e, hE, hiff⟩ := wrong_spec ops l false
  constructor
  · intro h
    refine Ev.congr (fun q => by rw [climb_Show.f]) (Ev.bind hE (Ev.pos (hiff.2 h) (Ev.pos (show l.length < 1000 from Nat.lt_of_le_of_lt h.len (by omega)) ?_)))
    have := show_sim ops l h.len h.signs h.n l.length 0 (by omega) [] (by simp [sizeT]) (fun t ht => by cases ht)
    rw [List.drop_zero] at this
    exact this
  · intro h
    have he : e ≠ 0 := fun e0 => h (hiff.1 e0)
    exact ⟨e, he, Ev.congr (fun q => by rw [climb_Show.f]) (Ev.bind hE (Ev.neg he (Ev.now _)))⟩
theorem showT_cases (ops : List S94) (l : List Int) (h : Chk ops l false) : (∃ t : Tr, t.good ops.length ∧ l = t.post ∧ buildT l [] = some [t]) ∨ ((¬ ∃ t : Tr, t.good ops.length ∧ l = t.post) ∧ showT ops (buildT l []) = ([], 5)) := by
  have hN : ((ops.length : Int)) ≤ 99 := by have := h.n; omega
  by_cases hc : ∃ t : Tr, t.good ops.length ∧ l = t.post
  · left
    obtain ⟨t, ht, rfl⟩ := hc
    refine ⟨t, ht, rfl, ?_⟩
    have := build_post hN t ht [] []
    rw [List.append_nil] at this
    rw [this, buildT]
  · right
    refine ⟨hc, ?_⟩
    cases hb : buildT l [] with
    | none => rfl
    | some ts =>
      obtain ⟨a, b⟩ := build_flat (N := ops.length) l [] ts (fun x hx => by
        rcases h.signs x hx with c | c | c
        · exact .inl c
        · exact .inr c
        · cases c.1) (fun t ht => by cases ht) hb
      match ts, a, b with
      | [], _, _ => rfl
      | [t], a, b => exact absurd ⟨t, a t (by simp), by simpa using b.symm⟩ hc
      | _ :: _ :: _, _, _ => rfl
theorem signs_ok (lv : Int → Int) (rg : Int → Bool) (N : Int) : ∀ t : Tr, t.good N → ∀ x ∈ t.signs lv rg, signOk N true x
  | .val x, h, y, hy => by
    rw [Tr.signs, List.mem_singleton] at hy
    subst hy
    exact .inl h
  | .op x a b, ⟨hx, ha, hb⟩, y, hy => by
    have hw : ∀ (m : Bool) (l : List Int), (∀ z ∈ l, signOk N true z) → ∀ z ∈ wrapT m l, signOk N true z := by
      intro m l hl z hz
      unfold wrapT at hz
      split at hz
      · simp only [List.flatten_cons, List.flatten_nil, List.mem_append, List.mem_singleton, List.append_nil] at hz
        rcases hz with c | c | c
        · exact .inr (.inr ⟨rfl, .inl c⟩)
        · exact hl z c
        · exact .inr (.inr ⟨rfl, .inr c⟩)
      · exact hl z hz
    simp only [Tr.signs, List.flatten_cons, List.flatten_nil, List.mem_append, List.mem_singleton, List.append_nil] at hy
    rcases hy with c | c | c
    · exact hw _ _ (signs_ok lv rg N a ha) y c
    · subst c; exact .inr (.inl hx)
    · exact hw _ _ (signs_ok lv rg N b hb) y c
theorem post_ok (N : Int) : ∀ t : Tr, t.good N → ∀ x ∈ t.post, signOk N false x
  | .val x, h, y, hy => by
    rw [Tr.post, List.mem_singleton] at hy
    subst hy
    exact .inl h
  | .op x a b, ⟨hx, ha, hb⟩, y, hy => by
    simp only [Tr.post, List.mem_append, List.mem_singleton] at hy
    rcases hy with (c | c) | c
    · exact post_ok N a ha y c
    · exact post_ok N b hb y c
    · subst c; exact .inr (.inl hx)
theorem post_len (lv : Int → Int) (rg : Int → Bool) : ∀ t : Tr, t.post.length ≤ (t.signs lv rg).length
  | .val x => by simp [Tr.signs, Tr.post]
  | .op x a b => by
    have h1 := post_len lv rg a
    have h2 := post_len lv rg b
    simp only [Tr.signs, Tr.post, List.flatten_cons, List.flatten_nil, List.length_append, List.length_cons, List.length_nil, wrap_len]
    omega
/-- What is shown of a tree is read as its post order. -/
theorem back_spec (ops : List S94) (l : List Int) (m : Bool) (h : Chk ops l m) (t : Tr) (ht : t.good ops.length) (hlen : (t.signs (lvO ops) (rgO ops)).length ≤ 60) : Ev (fun q => climb_Read.f q ops (t.signs (lvO ops) (rgO ops))) (t.post, 0) := by
  have hN : ((ops.length : Int)) ≤ 99 := by have := h.n; omega
  have := (read_spec ops (t.signs (lvO ops) (rgO ops))).1 ⟨h.n, hlen, h.pairs, signs_ok _ _ _ t ht⟩
  rw [read_shown h.hr hN ht] at this
  exact this
end Go.Proofs.Ythgiiikjcfhgjaa.PCM
