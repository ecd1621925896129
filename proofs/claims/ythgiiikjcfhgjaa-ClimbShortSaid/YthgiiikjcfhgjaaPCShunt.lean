/- Expressions of operations with marks, read with a stack and shown with few marks, in plain Lean. Conditions: none. -/
import Derived.Test.YthgiiikjcfhgjaaEv
namespace Go.Proofs.Ythgiiikjcfhgjaa.PCM
set_option linter.unusedVariables false
set_option linter.unusedSimpArgs false

inductive Tr
  | val (x : Int)
  | op (x : Int) (a b : Tr)
def Tr.post : Tr → List Int
  | .val x => [x]
  | .op x a b => a.post ++ b.post ++ [x]
def Tr.last : Tr → Int
  | .val _ => -1
  | .op x _ _ => x
def Tr.good (N : Int) : Tr → Prop
  | .val x => 100 ≤ x
  | .op x a b => (0 ≤ x ∧ x < N) ∧ a.good N ∧ b.good N
def moreT (lv : Int → Int) (rg : Int → Bool) (x y : Int) : Bool := decide (lv y > lv x) || (lv y == lv x && !rg x)
def markT (lv : Int → Int) (rg : Int → Bool) (y x : Int) (right : Bool) : Bool := decide (0 ≤ y) && (decide (lv y < lv x) || (lv y == lv x && rg x != right))
def wrapT (m : Bool) (l : List Int) : List Int := if m = true then [[-1], l, [-2]].flatten else l
def Tr.signs (lv : Int → Int) (rg : Int → Bool) : Tr → List Int
  | .val x => [x]
  | .op x a b => [wrapT (markT lv rg a.last x false) (a.signs lv rg), [x], wrapT (markT lv rg b.last x true) (b.signs lv rg)].flatten
def shutP : List Int → List Int → List Int × List Int
  | out, [] => (out, [])
  | out, y :: s => if y = -1 then (out, y :: s) else shutP (out ++ [y]) s
def defP (lv : Int → Int) (rg : Int → Bool) (x : Int) : List Int → List Int → List Int × List Int
  | out, [] => (out, [])
  | out, y :: s => if y = -1 then (out, y :: s) else if moreT lv rg x y = true then defP lv rg x (out ++ [y]) s else (out, y :: s)
def readP (lv : Int → Int) (rg : Int → Bool) : List Int → List Int → List Int → Int → Bool → Option (List Int)
  | [], out, s, deep, done => if done = false ∨ deep > 0 then none else some (out ++ s)
  | x :: l, out, s, deep, done => if done = (decide (x ≥ 100) || x == -1) then none
    else if x ≥ 100 then readP lv rg l (out ++ [x]) s deep true
    else if x = -1 then readP lv rg l out (x :: s) (deep + 1) done
    else if x = -2 then (if deep - 1 < 0 then none else readP lv rg l (shutP out s).1 (shutP out s).2.tail (deep - 1) done)
    else readP lv rg l (defP lv rg x out s).1 (x :: (defP lv rg x out s).2) deep false
theorem moreT_iff {lv : Int → Int} {rg : Int → Bool} {x y : Int} : moreT lv rg x y = true ↔ lv x < lv y ∨ (lv y = lv x ∧ rg x = false) := by
  unfold moreT
  simp
theorem markL_iff {lv : Int → Int} {rg : Int → Bool} {x y : Int} : markT lv rg y x false = true ↔ 0 ≤ y ∧ moreT lv rg x y = false := by
  rw [Bool.eq_false_iff, Ne, moreT_iff]
  unfold markT
  cases rg x <;> simp <;> omega
section
variable {lv : Int → Int} {rg : Int → Bool} {N : Int} (hr : ∀ x y, 0 ≤ x → x < N → 0 ≤ y → y < N → lv x = lv y → rg x = rg y)
theorem markR_iff (hr : ∀ x y, 0 ≤ x → x < N → 0 ≤ y → y < N → lv x = lv y → rg x = rg y) {x y : Int} (hx : 0 ≤ x ∧ x < N) (hy : y < N) : markT lv rg y x true = true ↔ 0 ≤ y ∧ moreT lv rg y x = true := by
  rw [moreT_iff]
  unfold markT
  by_cases h0 : 0 ≤ y
  · have := hr y x h0 hy hx.1 hx.2
    cases hrx : rg x
    · rw [hrx] at this
      simp [h0]
      constructor
      · rintro (h | h)
        · exact .inl h
        · exact .inr ⟨h.symm, this h⟩
      · rintro (h | h)
        · exact .inl h
        · exact .inr h.1.symm
    · rw [hrx] at this
      simp [h0]
      intro h h2
      rw [this h.symm] at h2
      cases h2
  · simp [h0]
theorem Tr.last_lt : ∀ {t : Tr}, t.good N → 0 < N → t.last < N
  | .val _, _, h => by simp only [Tr.last]; omega
  | .op _ _ _, h, _ => h.1.2
theorem shutP_pops {out p s : List Int} (hp : ∀ z ∈ p, 0 ≤ z) : shutP out (p ++ -1 :: s) = (out ++ p, -1 :: s) := by
  induction p generalizing out with
  | nil => simp [shutP]
  | cons z p ih =>
    have h0 := hp z List.mem_cons_self
    rw [List.cons_append, shutP, if_neg (by omega), ih (fun y hy => hp y (List.mem_cons_of_mem _ hy))]
    simp
theorem defP_pops {x : Int} {out p s : List Int} (hp : ∀ z ∈ p, 0 ≤ z ∧ moreT lv rg x z = true) (hs : ∀ y, s.head? = some y → y = -1 ∨ moreT lv rg x y = false) : defP lv rg x out (p ++ s) = (out ++ p, s) := by
  induction p generalizing out with
  | nil =>
    cases s with
    | nil => simp [defP]
    | cons y s =>
      rw [List.nil_append, defP, List.append_nil]
      rcases hs y rfl with h | h
      · rw [if_pos h]
      · by_cases h1 : y = -1
        · rw [if_pos h1]
        · rw [if_neg h1, if_neg (by simp [h])]
  | cons z p ih =>
    have h0 := hp z List.mem_cons_self
    rw [List.cons_append, defP, if_neg (by omega), if_pos h0.2, ih (fun y hy => hp y (List.mem_cons_of_mem _ hy))]
    simp
/-- What is still on the stack behind an operand. -/
def PendT (lv : Int → Int) (rg : Int → Bool) (N : Int) (t : Tr) (p : List Int) : Prop := (p ≠ [] → 0 ≤ t.last) ∧ ∀ z ∈ p, 0 ≤ z ∧ ∀ x, 0 ≤ x → x < N → moreT lv rg x t.last = true → moreT lv rg x z = true
theorem read_signs (hr : ∀ x y, 0 ≤ x → x < N → 0 ≤ y → y < N → lv x = lv y → rg x = rg y) (hN : N ≤ 99) : ∀ (t : Tr), t.good N → ∀ (rest out s : List Int) (deep : Int), 0 ≤ deep → (∀ y, s.head? = some y → y = -1 ∨ ((0 ≤ y ∧ y < N) ∧ (0 ≤ t.last → moreT lv rg t.last y = false))) →
    ∃ out' p, out' ++ p = out ++ t.post ∧ PendT lv rg N t p ∧ readP lv rg (t.signs lv rg ++ rest) out s deep false = readP lv rg rest out' (p ++ s) deep true
  | .val x, hg, rest, out, s, deep, hd, hs => by
    have hg : 100 ≤ x := hg
    refine ⟨out ++ [x], [], by simp [Tr.post], ⟨fun h => absurd rfl h, fun z hz => by cases hz⟩, ?_⟩
    rw [Tr.signs, List.singleton_append, readP, if_neg (by simp; omega), if_pos (by omega)]
    rfl
  | .op x a b, hg, rest, out, s, deep, hd, hs => by
    obtain ⟨hx, ga, gb⟩ := hg
    have hN0 : 0 < N := by omega
    have hla := Tr.last_lt ga hN0
    have hlb := Tr.last_lt gb hN0
    -- the left part
    have left : ∀ r, readP lv rg (wrapT (markT lv rg a.last x false) (a.signs lv rg) ++ (x :: r)) out s deep false = readP lv rg r (out ++ a.post) (x :: s) deep false := by
      intro r
      have hsx : ∀ y, s.head? = some y → y = -1 ∨ moreT lv rg x y = false := by
        intro y hy
        rcases hs y hy with h | h
        · exact .inl h
        · exact .inr (h.2 hx.1)
      have fin : ∀ o p, o ++ p = out ++ a.post → (∀ z ∈ p, 0 ≤ z ∧ moreT lv rg x z = true) → readP lv rg (x :: r) o (p ++ s) deep true = readP lv rg r (out ++ a.post) (x :: s) deep false := by
        intro o p e hp
        have e1 : (x == -1) = false := by rw [beq_eq_false_iff_ne]; omega
        have e2 : decide (x ≥ 100) = false := decide_eq_false (by omega)
        rw [readP, e1, e2, if_neg (by simp), if_neg (by omega), if_neg (by omega), if_neg (by omega), defP_pops hp hsx, e]
      by_cases hm : markT lv rg a.last x false = true
      · rw [hm, wrapT, if_pos rfl]
        have := read_signs hr hN a ga ([-2] ++ (x :: r)) out (-1 :: s) (deep + 1) (by omega) (fun y hy => by left; simpa using hy.symm)
        obtain ⟨o, p, e, hp, hread⟩ := this
        have e0 : [[-1], a.signs lv rg, [-2]].flatten ++ (x :: r) = -1 :: (a.signs lv rg ++ ([-2] ++ (x :: r))) := by simp
        rw [e0, readP, if_neg (by simp), if_neg (by omega), if_pos rfl, hread, List.singleton_append, readP, if_neg (by simp), if_neg (by omega), if_neg (by omega), if_pos rfl, if_neg (by omega), shutP_pops (fun z hz => (hp.2 z hz).1)]
        simp only [List.tail_cons]
        rw [show deep + 1 - 1 = deep by omega, e]
        exact fin (out ++ a.post) [] (by simp) (fun z hz => by cases hz)
      · have hm0 : markT lv rg a.last x false = false := by simpa using hm
        rw [hm0, wrapT, if_neg (by simp)]
        have hml : 0 ≤ a.last → moreT lv rg x a.last = true := by
          intro h0
          by_cases h : moreT lv rg x a.last = true
          · exact h
          · exact absurd (markL_iff.2 ⟨h0, by simpa using h⟩) hm
        obtain ⟨o, p, e, hp, hread⟩ := read_signs hr hN a ga (x :: r) out s deep hd (by
          intro y hy
          rcases hs y hy with h | ⟨hyb, h⟩
          · exact .inl h
          · refine .inr ⟨hyb, fun h0 => ?_⟩
            have h1 := moreT_iff.1 (hml h0)
            have h2 : moreT lv rg x y = false := h hx.1
            rw [Bool.eq_false_iff, Ne, moreT_iff] at h2 ⊢
            have hxa := hr x a.last hx.1 hx.2 h0 hla
            rintro (h3 | h3)
            · apply h2; left; rcases h1 with h1 | h1 <;> omega
            · rcases h1 with h1 | h1
              · apply h2; left; omega
              · apply h2; right; exact ⟨by omega, h1.2⟩)
        rw [hread]
        refine fin o p e (fun z hz => ⟨(hp.2 z hz).1, (hp.2 z hz).2 x hx.1 hx.2 (hml (hp.1 (fun h => by rw [h] at hz; cases hz)))⟩)
    have e0 : (Tr.op x a b).signs lv rg ++ rest = wrapT (markT lv rg a.last x false) (a.signs lv rg) ++ (x :: (wrapT (markT lv rg b.last x true) (b.signs lv rg) ++ rest)) := by
      simp [Tr.signs]
    rw [e0, left]
    by_cases hm : markT lv rg b.last x true = true
    · rw [hm, wrapT, if_pos rfl]
      obtain ⟨o, p, e, hp, hread⟩ := read_signs hr hN b gb ([-2] ++ rest) (out ++ a.post) (-1 :: x :: s) (deep + 1) (by omega) (fun y hy => by left; simpa using hy.symm)
      have e1 : [[-1], b.signs lv rg, [-2]].flatten ++ rest = -1 :: (b.signs lv rg ++ ([-2] ++ rest)) := by simp
      refine ⟨out ++ a.post ++ b.post, [x], by simp [Tr.post], ⟨fun _ => hx.1, fun z hz => ?_⟩, ?_⟩
      · rw [List.mem_singleton] at hz
        subst hz
        exact ⟨hx.1, fun y _ _ h => h⟩
      · rw [e1, readP, if_neg (by simp), if_neg (by omega), if_pos rfl, hread, List.singleton_append, readP, if_neg (by simp), if_neg (by omega), if_neg (by omega), if_pos rfl, if_neg (by omega), shutP_pops (fun z hz => (hp.2 z hz).1)]
        simp only [List.tail_cons]
        rw [show deep + 1 - 1 = deep by omega, e]
        rfl
    · have hm0 : markT lv rg b.last x true = false := by simpa using hm
      rw [hm0, wrapT, if_neg (by simp)]
      have hmr : 0 ≤ b.last → moreT lv rg b.last x = false := by
        intro h0
        by_cases h : moreT lv rg b.last x = true
        · exact absurd ((markR_iff hr hx hlb).2 ⟨h0, h⟩) hm
        · simpa using h
      obtain ⟨o, p, e, hp, hread⟩ := read_signs hr hN b gb rest (out ++ a.post) (x :: s) deep hd (by
        intro y hy
        simp only [List.head?_cons, Option.some.injEq] at hy
        subst hy
        exact .inr ⟨hx, hmr⟩)
      refine ⟨o, p ++ [x], ?_, ⟨fun _ => hx.1, fun z hz => ?_⟩, ?_⟩
      · rw [← List.append_assoc, e]; simp [Tr.post]
      · rcases List.mem_append.1 hz with hz | hz
        · refine ⟨(hp.2 z hz).1, fun y hy0 hy1 hmy => (hp.2 z hz).2 y hy0 hy1 ?_⟩
          have h0 : 0 ≤ b.last := hp.1 (fun h => by rw [h] at hz; cases hz)
          have h1 := hmr h0
          have h2 := moreT_iff.1 hmy
          rw [Bool.eq_false_iff, Ne, moreT_iff] at h1
          rw [moreT_iff]
          have hbx := hr b.last x h0 hlb hx.1 hx.2
          have hby := hr b.last y h0 hlb hy0 hy1
          simp only [Tr.last] at h2
          by_cases h3 : lv y < lv b.last
          · exact .inl h3
          · right
            have h4 : ¬ lv b.last < lv x := fun h => h1 (.inl h)
            rcases h2 with h2 | h2
            · exact absurd h2 (by omega)
            · have h5 : lv b.last = lv y := by omega
              exact ⟨h5, h2.2⟩
        · rw [List.mem_singleton] at hz
          subst hz
          exact ⟨hx.1, fun y _ _ h => h⟩
      · rw [hread]
        simp
end
theorem read_shown {lv : Int → Int} {rg : Int → Bool} {N : Int} (hr : ∀ x y, 0 ≤ x → x < N → 0 ≤ y → y < N → lv x = lv y → rg x = rg y) (hN : N ≤ 99) {t : Tr} (ht : t.good N) : readP lv rg (t.signs lv rg) [] [] 0 false = some t.post := by
  obtain ⟨o, p, e, hp, hread⟩ := read_signs hr hN t ht [] [] [] 0 (by omega) (fun y hy => by cases hy)
  rw [List.append_nil] at hread
  rw [hread, readP, if_neg (by simp), List.append_nil, e, List.nil_append]
end Go.Proofs.Ythgiiikjcfhgjaa.PCM
