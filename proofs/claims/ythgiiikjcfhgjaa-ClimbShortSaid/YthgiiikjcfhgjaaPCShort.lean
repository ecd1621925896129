/- What is read is the post order of a tree that is shown with no more signs, in plain Lean. Conditions: none. -/
import Derived.Test.YthgiiikjcfhgjaaPCShunt
namespace Go.Proofs.Ythgiiikjcfhgjaa.PCM
set_option linter.unusedVariables false
set_option linter.unusedSimpArgs false
section
variable (lv : Int → Int) (rg : Int → Bool) (N : Int)
/-- A tree's signs with the marks that stand around it behind c: at most m. -/
def costT (t : Tr) (c : Int) (m : Nat) : Prop := (c = t.last ∧ (t.signs lv rg).length ≤ m) ∨ (c = -1 ∧ (t.signs lv rg).length + 2 ≤ m)
inductive InvT : List Int → List Int → Nat → Prop
  | nil : InvT [] [] 0
  | opened {out s n} : InvT out s n → InvT out (-1 :: s) (n + 1)
  | op {out s n x a c m} : InvT out s n → a.good N → 0 ≤ x → x < N → costT lv rg a c m → (0 ≤ c → moreT lv rg x c = true) → (∀ y, s.head? = some y → y = -1 ∨ moreT lv rg x y = false) → InvT (out ++ a.post) (x :: s) (n + m + 1)
/-- An expression stands ahead. -/
def DoneT (out s : List Int) (n : Nat) (c : Int) : Prop := ∃ out0 n0 t m, InvT lv rg N out0 s n0 ∧ t.good N ∧ out = out0 ++ t.post ∧ n = n0 + m ∧ costT lv rg t c m ∧ c < N ∧ ∀ y, s.head? = some y → y = -1 ∨ (0 ≤ c → moreT lv rg c y = false)
end
section
variable {lv : Int → Int} {rg : Int → Bool} {N : Int}
theorem InvT.mem {out s : List Int} {n : Nat} (h : InvT lv rg N out s n) : ∀ y ∈ s, y = -1 ∨ (0 ≤ y ∧ y < N) := by
  induction h with
  | nil => intro y hy; cases hy
  | opened h ih => intro y hy; rcases List.mem_cons.1 hy with h | h; exact .inl h; exact ih y h
  | op h _ h0 h1 _ _ _ ih => intro y hy; rcases List.mem_cons.1 hy with h | h; (subst h; exact .inr ⟨h0, h1⟩); exact ih y h
theorem Tr.last_ge (t : Tr) (h : t.good N) : -1 ≤ t.last := by
  cases t with
  | val x => exact Int.le_refl _
  | op x a b => have := h.1.1; simp only [Tr.last]; omega
theorem wrap_len (m : Bool) (l : List Int) : (wrapT m l).length = l.length + (if m = true then 2 else 0) := by
  unfold wrapT
  split <;> simp
theorem costT.wrapL {t : Tr} {c : Int} {m : Nat} {x : Int} (ht : t.good N) (h : costT lv rg t c m) (hc : 0 ≤ c → moreT lv rg x c = true) : (wrapT (markT lv rg t.last x false) (t.signs lv rg)).length ≤ m := by
  rw [wrap_len]
  rcases h with ⟨rfl, h⟩ | ⟨rfl, h⟩
  · rw [if_neg]; · omega
    intro hm
    obtain ⟨h0, h1⟩ := markL_iff.1 hm
    rw [hc h0] at h1; cases h1
  · split <;> omega
theorem costT.wrapR (hr : ∀ x y, 0 ≤ x → x < N → 0 ≤ y → y < N → lv x = lv y → rg x = rg y) {t : Tr} {c : Int} {m : Nat} {x : Int} (ht : t.good N) (hx : 0 ≤ x ∧ x < N) (h : costT lv rg t c m) (hc : 0 ≤ c → moreT lv rg c x = false) : (wrapT (markT lv rg t.last x true) (t.signs lv rg)).length ≤ m := by
  rw [wrap_len]
  rcases h with ⟨rfl, h⟩ | ⟨rfl, h⟩
  · rw [if_neg]; · omega
    intro hm
    obtain ⟨h0, h1⟩ := (markR_iff hr hx (Tr.last_lt ht (by omega))).1 hm
    rw [hc h0] at h1; cases h1
  · split <;> omega
/-- An operation is done. -/
theorem DoneT.pop (hr : ∀ x y, 0 ≤ x → x < N → 0 ≤ y → y < N → lv x = lv y → rg x = rg y) {out s : List Int} {n : Nat} {c y : Int} (h : DoneT lv rg N out (y :: s) n c) (hy : y ≠ -1) : DoneT lv rg N (out ++ [y]) s n y := by
  obtain ⟨out0, n0, t, m, hi, ht, rfl, rfl, hc, hcN, hh⟩ := h
  cases hi with
  | opened h => exact absurd rfl hy
  | @op o1 _ n1 _ a c1 ma h ga h0 h1 hca hma hs =>
    have hright := hh y rfl
    have hright : 0 ≤ c → moreT lv rg c y = false := by rcases hright with e | e; exact absurd e hy; exact e
    refine ⟨o1, n1, .op y a t, ma + 1 + m, h, ⟨⟨h0, h1⟩, ga, ht⟩, by simp [Tr.post], by omega, .inl ⟨rfl, ?_⟩, h1, fun z hz => ?_⟩
    · have hl := costT.wrapL (lv := lv) (rg := rg) (x := y) ga hca hma
      have hr2 := costT.wrapR hr ht ⟨h0, h1⟩ hc hright
      simp only [Tr.signs, List.flatten_cons, List.flatten_nil, List.length_append, List.length_cons, List.length_nil]
      omega
    · rcases hs z hz with h | h
      · exact .inl h
      · exact .inr (fun _ => h)
theorem shut_inv (hr : ∀ x y, 0 ≤ x → x < N → 0 ≤ y → y < N → lv x = lv y → rg x = rg y) : ∀ (s out : List Int) (n : Nat) (c : Int), DoneT lv rg N out s n c → -1 ∈ s → ∃ s', (shutP out s).2 = -1 :: s' ∧ DoneT lv rg N (shutP out s).1 s' (n + 1) (-1) ∧ s.count (-1) = s'.count (-1) + 1
  | [], out, n, c, h, hm => by cases hm
  | y :: s, out, n, c, h, hm => by
    rw [shutP]
    by_cases hy : y = -1
    · subst hy
      rw [if_pos rfl]
      refine ⟨s, rfl, ?_, by simp⟩
      obtain ⟨out0, n0, t, m, hi, ht, rfl, rfl, hc, hcN, hh⟩ := h
      cases hi with
      | @opened _ _ n1 h =>
        refine ⟨out0, n1, t, m + 2, h, ht, rfl, by omega, .inr ⟨rfl, ?_⟩, ?_, fun z hz => .inr (fun h => by omega)⟩
        · rcases hc with ⟨_, h⟩ | ⟨_, h⟩ <;> omega
        · rcases hc with ⟨e, _⟩ | ⟨e, _⟩
          · have := Tr.last_ge t ht; omega
          · omega
      | op _ _ h0 _ _ _ _ => omega
    · rw [if_neg hy]
      obtain ⟨s', h1, h2, h3⟩ := shut_inv hr s (out ++ [y]) n y (h.pop hr hy) (by rcases List.mem_cons.1 hm with h | h; exact absurd h.symm hy; exact h)
      exact ⟨s', h1, h2, by rw [List.count_cons_of_ne (by simpa using hy), h3]⟩
theorem def_inv (hr : ∀ x y, 0 ≤ x → x < N → 0 ≤ y → y < N → lv x = lv y → rg x = rg y) {x : Int} (hx : 0 ≤ x ∧ x < N) : ∀ (s out : List Int) (n : Nat) (c : Int), DoneT lv rg N out s n c → (0 ≤ c → moreT lv rg x c = true) → InvT lv rg N (defP lv rg x out s).1 (x :: (defP lv rg x out s).2) (n + 1) ∧ (defP lv rg x out s).2.count (-1) = s.count (-1)
  | [], out, n, c, h, hc => by
    obtain ⟨out0, n0, t, m, hi, ht, rfl, rfl, hco, hcN, hh⟩ := h
    rw [defP]
    exact ⟨InvT.op hi ht hx.1 hx.2 hco hc (fun y hy => by cases hy), rfl⟩
  | y :: s, out, n, c, h, hc => by
    rw [defP]
    by_cases hy : y = -1
    · rw [if_pos hy]
      obtain ⟨out0, n0, t, m, hi, ht, rfl, rfl, hco, hcN, hh⟩ := h
      exact ⟨InvT.op hi ht hx.1 hx.2 hco hc (fun z hz => .inl (by simp at hz; omega)), rfl⟩
    · rw [if_neg hy]
      by_cases hm : moreT lv rg x y = true
      · rw [if_pos hm]
        have := def_inv hr hx s (out ++ [y]) n y (h.pop hr hy) (fun _ => hm)
        exact ⟨this.1, by rw [this.2, List.count_cons_of_ne (by simpa using hy)]⟩
      · rw [if_neg hm]
        obtain ⟨out0, n0, t, m, hi, ht, rfl, rfl, hco, hcN, hh⟩ := h
        exact ⟨InvT.op hi ht hx.1 hx.2 hco hc (fun z hz => .inr (by simp at hz; subst hz; simpa using hm)), rfl⟩
theorem end_inv (hr : ∀ x y, 0 ≤ x → x < N → 0 ≤ y → y < N → lv x = lv y → rg x = rg y) : ∀ (s out : List Int) (n : Nat) (c : Int), DoneT lv rg N out s n c → -1 ∉ s → ∃ t : Tr, t.good N ∧ out ++ s = t.post ∧ (t.signs lv rg).length ≤ n
  | [], out, n, c, h, hm => by
    obtain ⟨out0, n0, t, m, hi, ht, rfl, rfl, hco, hcN, hh⟩ := h
    cases hi
    refine ⟨t, ht, by simp, ?_⟩
    rcases hco with ⟨_, h⟩ | ⟨_, h⟩ <;> omega
  | y :: s, out, n, c, h, hm => by
    obtain ⟨t, h1, h2, h3⟩ := end_inv hr s (out ++ [y]) n y (h.pop hr (fun e => hm (by rw [e]; exact List.mem_cons_self))) (fun e => hm (List.mem_cons_of_mem _ e))
    exact ⟨t, h1, by rw [← h2]; simp, h3⟩
theorem read_inv (hr : ∀ x y, 0 ≤ x → x < N → 0 ≤ y → y < N → lv x = lv y → rg x = rg y) (hN : N ≤ 99) (hN0 : 0 ≤ N) : ∀ (l : List Int), (∀ x ∈ l, x ≥ 100 ∨ (0 ≤ x ∧ x < N) ∨ x = -1 ∨ x = -2) → ∀ (out s : List Int) (n : Nat) (deep : Int) (done : Bool), deep = (s.count (-1) : Int) → (done = false → InvT lv rg N out s n) → (done = true → DoneT lv rg N out s n (-1)) → ∀ p, readP lv rg l out s deep done = some p → ∃ t : Tr, t.good N ∧ p = t.post ∧ (t.signs lv rg).length ≤ n + l.length
  | [], hl, out, s, n, deep, done, hd, h0, h1, p, hp => by
    rw [readP] at hp
    split at hp
    · cases hp
    · rename_i hc
      obtain rfl := Option.some.inj hp
      cases done with
      | false => exact absurd (.inl rfl) hc
      | true =>
        obtain ⟨t, a, b, c⟩ := end_inv hr s out n (-1) (h1 rfl) (fun e => hc (.inr (by have := List.count_pos_iff.2 e; omega)))
        exact ⟨t, a, b, c⟩
  | x :: l, hl, out, s, n, deep, done, hd, h0, h1, p, hp => by
    have hx := hl x List.mem_cons_self
    have hl2 := fun y hy => hl y (List.mem_cons_of_mem _ hy)
    have next : ∀ (out s : List Int) (deep : Int) (done : Bool), deep = (s.count (-1) : Int) → (done = false → InvT lv rg N out s (n + 1)) → (done = true → DoneT lv rg N out s (n + 1) (-1)) → readP lv rg l out s deep done = some p → ∃ t : Tr, t.good N ∧ p = t.post ∧ (t.signs lv rg).length ≤ n + (x :: l).length := by
      intro out s deep done a b c d
      obtain ⟨t, e, f, g⟩ := read_inv hr hN hN0 l hl2 out s (n + 1) deep done a b c p d
      exact ⟨t, e, f, by rw [List.length_cons]; omega⟩
    rw [readP] at hp
    split at hp
    · cases hp
    · rename_i hdn
      split at hp
      · rename_i hx100
        have hdone : done = false := by
          cases done with
          | false => rfl
          | true => exact absurd (by simp [hx100]) hdn
        subst hdone
        refine next _ _ _ true hd (fun e => by cases e) (fun _ => ⟨out, n, .val x, 1, h0 rfl, hx100, rfl, rfl, .inl ⟨rfl, by simp [Tr.signs]⟩, by omega, fun y hy => .inr (fun h => by omega)⟩) hp
      · rename_i hx100
        split at hp
        · rename_i hxo
          subst hxo
          have hdone : done = false := by
            cases done with
            | false => rfl
            | true => exact absurd (by simp) hdn
          subst hdone
          exact next _ _ _ false (by simp; omega) (fun _ => InvT.opened (h0 rfl)) (fun e => by cases e) hp
        · rename_i hxo
          have hdone : done = true := by
            cases done with
            | true => rfl
            | false => exact absurd (by simp [hxo]; omega) hdn
          subst hdone
          split at hp
          · split at hp
            · cases hp
            · rename_i hdp
              obtain ⟨s', a, b, c⟩ := shut_inv hr s out n (-1) (h1 rfl) (List.count_pos_iff.1 (by omega))
              rw [a, List.tail_cons] at hp
              exact next _ _ _ true (by omega) (fun e => by cases e) (fun _ => b) hp
          · have hxx : 0 ≤ x ∧ x < N := by omega
            obtain ⟨a, b⟩ := def_inv hr hxx s out n (-1) (h1 rfl) (fun h => by omega)
            exact next _ _ _ false (by rw [List.count_cons_of_ne (by simp; omega), b]; exact hd) (fun _ => a) (fun e => by cases e) hp
/-- What is read. -/
theorem read_tree (hr : ∀ x y, 0 ≤ x → x < N → 0 ≤ y → y < N → lv x = lv y → rg x = rg y) (hN : N ≤ 99) (hN0 : 0 ≤ N) {l p : List Int} (hl : ∀ x ∈ l, x ≥ 100 ∨ (0 ≤ x ∧ x < N) ∨ x = -1 ∨ x = -2) (h : readP lv rg l [] [] 0 false = some p) : ∃ t : Tr, t.good N ∧ p = t.post ∧ (t.signs lv rg).length ≤ l.length := by
  obtain ⟨t, a, b, c⟩ := read_inv hr hN hN0 l hl [] [] 0 0 false rfl (fun _ => InvT.nil) (fun e => by cases e) p h
  exact ⟨t, a, b, by omega⟩
/-! #### trees of a list in post order -/
def opT (x : Int) : List Tr → Option (List Tr)
  | b :: a :: st => some (.op x a b :: st)
  | _ => none
def buildT : List Int → List Tr → Option (List Tr)
  | [], st => some st
  | x :: l, st => if x ≥ 100 then buildT l (.val x :: st) else (opT x st).bind (buildT l)
theorem build_post (hN : N ≤ 99) : ∀ (t : Tr), t.good N → ∀ (l : List Int) (st : List Tr), buildT (t.post ++ l) st = buildT l (t :: st)
  | .val x, h, l, st => by
    rw [Tr.post, List.singleton_append, buildT, if_pos (show x ≥ 100 from h)]
  | .op x a b, ⟨hx, ha, hb⟩, l, st => by
    rw [Tr.post, List.append_assoc, List.append_assoc, build_post hN a ha, build_post hN b hb, List.singleton_append, buildT, if_neg (by omega)]; rfl
theorem build_flat : ∀ (l : List Int) (st ts : List Tr), (∀ x ∈ l, x ≥ 100 ∨ (0 ≤ x ∧ x < N)) → (∀ t ∈ st, t.good N) → buildT l st = some ts → (∀ t ∈ ts, t.good N) ∧ (ts.reverse.map Tr.post).flatten = (st.reverse.map Tr.post).flatten ++ l
  | [], st, ts, hl, hst, h => by
    rw [buildT] at h
    obtain rfl := Option.some.inj h
    exact ⟨hst, by simp⟩
  | x :: l, st, ts, hl, hst, h => by
    have hl2 := fun y hy => hl y (List.mem_cons_of_mem _ hy)
    rw [buildT] at h
    split at h
    · rename_i hx
      obtain ⟨a, b⟩ := build_flat l _ ts hl2 (fun t ht => by rcases List.mem_cons.1 ht with e | e; (subst e; exact hx); exact hst t e) h
      exact ⟨a, by rw [b]; simp [Tr.post]⟩
    · rename_i hx
      have hxN : 0 ≤ x ∧ x < N := by rcases hl x List.mem_cons_self with h | h; exact absurd h hx; exact h
      match st, hst, h with
      | [], hst, h => cases h
      | [_], hst, h => cases h
      | bb :: aa :: st, hst, h =>
        replace h : buildT l (.op x aa bb :: st) = some ts := h
        obtain ⟨a, b⟩ := build_flat l _ ts hl2 (fun t ht => by
          rcases List.mem_cons.1 ht with e | e
          · subst e; exact ⟨hxN, hst aa (by simp), hst bb (by simp)⟩
          · exact hst t (by simp [e])) h
        exact ⟨a, by rw [b]; simp [Tr.post]⟩
end
end Go.Proofs.Ythgiiikjcfhgjaa.PCM
