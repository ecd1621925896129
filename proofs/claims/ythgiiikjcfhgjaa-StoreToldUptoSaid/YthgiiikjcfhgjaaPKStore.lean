/- store.Pack and store.Unpack over lists, in plain Lean. Conditions: none. -/
import Derived.Test.YthgiiikjcfhgjaaPKFletch
import Derived.Test.YthgiiikjcfhgjaaPKSound
import Derived.Test.YthgiiikjcfhgjaaGK5
import Derived.Test.YthgiiikjcfhgjaaGK7
import Derived.Test.YthgiiikjcfhgjaaGK9
namespace Go.Proofs.Ythgiiikjcfhgjaa.PKM
set_option linter.unusedVariables false
set_option linter.unusedSimpArgs false
open Go.RowKit Go.Proofs.Ythgiiikjcfhgjaa.GK Go.Proofs.YthgiiikjcfhgjaaW.PrintWords Go.Proofs.YthgiiikjcfhgjaaW.PrintLast Go.Proofs.YthgiiikjcfhgjaaW.PrintMore

def wayN (w : List Int) : List Int := (w.length : Int) :: w
def waysN (ws : List (List Int)) : List Int := ws.flatMap wayN
def spotN (s : S117) : List Int := [s.f0, s.f1, s.f2, (s.f3.length : Int)] ++ waysN s.f3
def spotsN (sp : List S117) : List Int := sp.flatMap spotN
/-- All that is packed, in order. -/
def numsT (sp : List S117) (root : Int) : List Int := [root, (sp.length : Int)] ++ spotsN sp
theorem rdT_nat (xs : List S117) (i : Nat) : rd_T117 xs (i : Int) = xs.getD i z117 := by simp [rd_T117]
theorem waysN_cons (w : List Int) (ws : List (List Int)) : waysN (w :: ws) = wayN w ++ waysN ws := by unfold waysN; rw [List.flatMap_cons]
theorem spotsN_cons (s : S117) (sp : List S117) : spotsN (s :: sp) = spotN s ++ spotsN sp := by unfold spotsN; rw [List.flatMap_cons]
theorem waysN_len : ∀ ws : List (List Int), (waysN ws).length = (ws.map List.length).sum + ws.length
  | [] => rfl
  | w :: ws => by rw [waysN_cons, List.length_append, waysN_len ws, wayN]; simp only [List.length_cons, List.map_cons, List.sum_cons]; omega
theorem spotN_len (s : S117) : (spotN s).length = 4 + (waysN s.f3).length := by unfold spotN; simp; omega
theorem spot_le {s : S117} : ∀ {sp : List S117}, s ∈ sp → (spotN s).length ≤ (spotsN sp).length
  | a :: r, h => by
    rw [spotsN_cons, List.length_append]
    rcases List.mem_cons.1 h with rfl | h
    · omega
    · have := spot_le h; omega
theorem spots_len : ∀ sp : List S117, sp.length ≤ (spotsN sp).length
  | [] => Nat.le_refl _
  | s :: r => by have := spots_len r; have := spotN_len s; rw [spotsN_cons, List.length_append, List.length_cons]; omega
theorem wide_of {sp : List S117} (h : (spotsN sp).length ≤ 2000000) : wide sp := fun s hs => by
  have h1 := spot_le hs
  have h2 := spotN_len s
  have h3 := waysN_len s.f3
  omega
theorem one_len (w : List Int) : (w.map fun _ => 1).sum = w.length := by induction w with
  | nil => rfl
  | cons a r ih => simp only [List.map_cons, List.sum_cons, List.length_cons, ih]; omega
theorem bulk_len {sp : List S117} (h : ((sp.map fun x0_ => ((1 + (1 + (1 + ((x0_.f3.map fun x1_ => ((x1_.map fun x2_ => 1).sum + 1)).sum + 1)))) + 1)).sum + 1) ≤ 1048576) : (spotsN sp).length ≤ 1048576 := by
  have e1 : ∀ ws : List (List Int), (ws.map fun x1_ => ((x1_.map fun x2_ => 1).sum + 1)).sum = (waysN ws).length := by
    intro ws
    induction ws with
    | nil => rfl
    | cons a r ih =>
      rw [List.map_cons, List.sum_cons, ih, waysN_cons, List.length_append, wayN, List.length_cons, one_len]
  have e2 : ∀ l : List S117, (spotsN l).length ≤ (l.map fun x0_ => ((1 + (1 + (1 + ((x0_.f3.map fun x1_ => ((x1_.map fun x2_ => 1).sum + 1)).sum + 1)))) + 1)).sum := by
    intro l
    induction l with
    | nil => exact Nat.le_refl _
    | cons a r ih =>
      have := spotN_len a
      simp only [List.map_cons, List.sum_cons, spotsN_cons, List.length_append, e1] at ih ⊢
      omega
  have := e2 sp
  omega
theorem numbers_l1 {sp : List S117} {r : List Int} (i : Int) (ways : List (List Int)) : ∀ (d j : Nat) (acc : List Int), j + d = ways.length → acc.length + (waysN (ways.drop j)).length ≤ 4000000 → ways.length ≤ 4000000 →
    Ev (fun k => store_numbers.l0 k (acc ++ waysN (ways.drop j)) sp (sp.length : Int) (wrap64 (i + 1))) r →
    Ev (fun k => store_numbers.l1 k acc sp (sp.length : Int) i ways (ways.length : Int) (j : Int)) r := by
  intro d
  induction d with
  | zero =>
    intro j acc hj hl hw h
    refine Ev.step (fun k => by rw [store_numbers.l1]) (Ev.neg (by omega) ?_)
    rw [List.drop_eq_nil_of_le (by omega)] at h
    simpa [waysN] using h
  | succ d ih =>
    intro j acc hj hl hw h
    have hjl : j < ways.length := by omega
    rw [drop_cons' hjl [], waysN_cons] at hl h
    simp only [List.length_append, wayN, List.length_cons] at hl
    refine Ev.step (fun k => by rw [store_numbers.l1]) ?_
    rw [rdl_nat]
    refine Ev.pos (by omega) (Ev.pos (by omega) (Ev.pos (by omega) (Ev.pos (by omega) (Ev.let_ (Ev.pos (by rw [List.length_append, List.length_singleton]; omega) ?_)))))
    rw [w64 (n := (j : Int) + 1) (by omega) (by omega)]
    have h2 := ih (j + 1) (acc ++ [((ways.getD j []).length : Int)] ++ ways.getD j []) (by omega) (by simp only [List.length_append, List.length_singleton]; omega) hw
    refine h2 ?_
    rw [show acc ++ [((ways.getD j []).length : Int)] ++ ways.getD j [] ++ waysN (ways.drop (j + 1)) = acc ++ (wayN (ways.getD j []) ++ waysN (ways.drop (j + 1))) by simp [wayN]]
    exact h
theorem numbers_l0 {sp : List S117} (hw : wide sp) (hs : sp.length ≤ 2000000) : ∀ (d i : Nat) (acc : List Int), i + d = sp.length → acc.length + (spotsN (sp.drop i)).length ≤ 4000000 →
    Ev (fun k => store_numbers.l0 k acc sp (sp.length : Int) (i : Int)) (acc ++ spotsN (sp.drop i)) := by
  intro d
  induction d with
  | zero =>
    intro i acc hi hl
    refine Ev.step (fun k => by rw [store_numbers.l0]) (Ev.neg (by omega) (Ev.eq (Ev.now _) ?_))
    rw [List.drop_eq_nil_of_le (by omega)]; simp [spotsN]
  | succ d ih =>
    intro i acc hi hl
    have hil : i < sp.length := by omega
    rw [drop_cons' hil z117, spotsN_cons] at hl ⊢
    have hs4 := spotN_len (sp.getD i z117)
    rw [List.length_append] at hl
    have hws := waysN_len (sp.getD i z117).f3
    refine Ev.step (fun k => by rw [store_numbers.l0]) ?_
    simp only [rdT_nat]
    refine Ev.pos (by omega) (Ev.pos (by omega) (Ev.pos (by omega) (Ev.let_ (Ev.pos (by simp; omega) ?_))))
    refine numbers_l1 (i : Int) (sp.getD i z117).f3 _ 0 _ (Nat.zero_add _) ?_ (by omega) ?_
    · rw [List.drop_zero, List.length_append]; simp only [List.length_cons, List.length_nil]; omega
    · rw [w64 (by omega) (by omega), List.drop_zero]
      have := ih (i + 1) (acc ++ spotN (sp.getD i z117)) (by omega) (by rw [List.length_append]; omega)
      rw [List.append_assoc] at this
      rw [show acc ++ [(sp.getD i z117).f0, (sp.getD i z117).f1, (sp.getD i z117).f2, ((sp.getD i z117).f3.length : Int)] ++ waysN (sp.getD i z117).f3 = acc ++ spotN (sp.getD i z117) by unfold spotN; rw [List.append_assoc]]
      exact this
theorem numbers_spec {sp : List S117} (root : Int) (h : (spotsN sp).length ≤ 2000000) : Ev (fun k => store_numbers.f k sp root) (numsT sp root) := by
  have := spots_len sp
  have := numbers_l0 (wide_of h) (by omega) sp.length 0 [root, (sp.length : Int)] (by omega) (by rw [List.drop_zero]; simp only [List.length_cons, List.length_nil]; omega)
  rw [List.drop_zero] at this
  exact this

def by2 (n : Int) : List Int := [n % 256, n / 256 % 256]
def bytesOf (l : List Int) : List Int := l.flatMap by2
theorem bytesOf_cons (n : Int) (l : List Int) : bytesOf (n :: l) = by2 n ++ bytesOf l := by unfold bytesOf; rw [List.flatMap_cons]
theorem bytesOf_app (a b : List Int) : bytesOf (a ++ b) = bytesOf a ++ bytesOf b := by unfold bytesOf; rw [List.flatMap_append]
theorem bytesOf_len : ∀ l : List Int, (bytesOf l).length = 2 * l.length
  | [] => rfl
  | n :: l => by rw [bytesOf_cons, List.length_append, bytesOf_len l]; simp [by2]; omega
def isB (xs : List Int) : Prop := ∀ x ∈ xs, 0 ≤ x ∧ x ≤ 255
theorem by2_isB (n : Int) : isB (by2 n) := fun x hx => by
  simp only [by2, List.mem_cons, List.not_mem_nil, or_false] at hx
  rcases hx with h | h <;> omega
theorem bytesOf_isB : ∀ l : List Int, isB (bytesOf l)
  | [] => fun x hx => by cases hx
  | n :: l => fun x hx => by
    rw [bytesOf_cons] at hx
    rcases List.mem_append.1 hx with h | h
    · exact by2_isB n x h
    · exact bytesOf_isB l x h
theorem two_spec {l : List Int} (n : Int) (hl : l.length ≤ 4000000) : store_two.f l n = some (l ++ by2 n) := by
  unfold store_two.f by2
  simp only [Option.bind_some, List.length_cons, List.length_nil]
  rw [if_pos (by omega)]
def okN (l : List Int) : Prop := ∀ n ∈ l, 0 ≤ n ∧ n ≤ 65535
theorem any_spec (l : List Int) : l.any store_Pack_any.p = false ↔ okN l := by
  unfold okN
  rw [List.any_eq_false]
  constructor
  · intro h n hn
    have := h n hn
    simp only [store_Pack_any.p, Bool.or_eq_true, decide_eq_true_iff] at this
    omega
  · intro h n hn
    have := h n hn
    simp only [store_Pack_any.p, Bool.or_eq_true, decide_eq_true_iff]
    omega
def sumOf (l : List Int) : List Int := ss_out (ss_fold (0, 0) l)
theorem sumOf_len (l : List Int) : (sumOf l).length = 4 := rfl
theorem sumOf_isB (l : List Int) : isB (sumOf l) := by
  have := ss_in_fold l (0, 0) (by unfold ss_in; simp)
  unfold sumOf ss_out
  generalize ss_fold (0, 0) l = p at *
  obtain ⟨x, y⟩ := p
  intro z hz
  simp only [List.mem_cons, List.not_mem_nil, or_false] at hz
  rcases hz with h | h | h | h <;> omega
theorem pack_l0 {l : List Int} (hl : l.length ≤ 2000) : ∀ (d i : Nat) (acc : List Int), i + d = l.length → isB acc → acc.length ≤ 2 * i →
    Ev (fun k => store_Pack.l0 k l acc (l.length : Int) (i : Int)) (acc ++ bytesOf (l.drop i) ++ sumOf (acc ++ bytesOf (l.drop i)), 0) := by
  intro d
  induction d with
  | zero =>
    intro i acc hi hb ha
    refine Ev.step (fun k => by rw [store_Pack.l0]) (Ev.neg (by omega) ?_)
    rw [List.drop_eq_nil_of_le (by omega), show bytesOf [] = [] from rfl, List.append_nil]
    exact Ev.bind (ss_sum acc hb (by omega)) (Ev.pos (by show acc.length + 4 < _; omega) (Ev.now _))
  | succ d ih =>
    intro i acc hi hb ha
    have hil : i < l.length := by omega
    refine Ev.step (fun k => by rw [store_Pack.l0]) ?_
    rw [rd_nat]
    refine Ev.pos (by omega) (Ev.pos (by omega) (Ev.pos (by omega) (Ev.bindc (two_spec _ (by omega)) ?_)))
    rw [w64 (by omega) (by omega)]
    have := ih (i + 1) (acc ++ by2 (l.getD i 0)) (by omega) (fun x hx => by
      rcases List.mem_append.1 hx with h | h
      · exact hb x h
      · exact by2_isB _ x h) (by rw [List.length_append]; simp [by2]; omega)
    have e : acc ++ by2 (l.getD i 0) ++ bytesOf (l.drop (i + 1)) = acc ++ bytesOf (l.drop i) := by rw [drop_cons' hil 0, bytesOf_cons, List.append_assoc]
    rw [e] at this
    exact this
/-- What Pack tells. -/
def packR (s : Bool) (l : List Int) : List Int × Int := if s = true ∧ l.any store_Pack_any.p = false then (if 2 * l.length + 4 > 4000 then ([], 1) else (bytesOf l ++ sumOf (bytesOf l), 0)) else ([], 3)
theorem pack_spec {sp : List S117} (root : Int) (h : (spotsN sp).length ≤ 2000000) {s : Bool} (hs : Ev (fun k => store_sound.f k sp root) s) : Ev (fun k => store_Pack.f k sp root) (packR s (numsT sp root)) := by
  unfold store_Pack.f packR
  have hl : (numsT sp root).length = 2 + (spotsN sp).length := by unfold numsT; simp; omega
  refine Ev.bind (numbers_spec root h) (Ev.bind hs ?_)
  generalize numsT sp root = l at *
  cases s
  · refine Ev.neg (by decide) ?_
    rw [if_neg (by simp)]
    exact Ev.step (fun k => by rw [store_Pack.j0]) (Ev.pos rfl (Ev.now _))
  · refine Ev.pos rfl (Ev.bindc (a := l.any store_Pack_any.p) rfl ?_)
    cases ha : l.any store_Pack_any.p
    · rw [if_pos ⟨rfl, rfl⟩]
      refine Ev.step (fun k => by rw [store_Pack.j0]) (Ev.neg (by decide) ?_)
      have e : wrap64 (wrap64 (2 * (l.length : Int)) + 4) = 2 * (l.length : Int) + 4 := by rw [w64 (n := 2 * (l.length : Int)) (by omega) (by omega), w64 (by omega) (by omega)]
      rw [e]
      by_cases c : 2 * l.length + 4 > 4000
      · rw [if_pos c]
        exact Ev.pos (by omega) (Ev.now _)
      · rw [if_neg c]
        refine Ev.neg (by omega) ?_
        have := pack_l0 (l := l) (by omega) l.length 0 [] (by omega) (fun x hx => by cases hx) (by simp)
        rw [List.drop_zero, List.nil_append] at this
        exact this
    · rw [if_neg (by simp)]
      exact Ev.step (fun k => by rw [store_Pack.j0]) (Ev.pos rfl (Ev.now _))

/-! Reading. -/
theorem rd0 (x : Int) (l : List Int) : rd (x :: l) 0 = x := rfl
theorem rd1 (x y : Int) (l : List Int) : rd (x :: y :: l) 1 = y := rfl
theorem num_two {x y : Int} (hx : 0 ≤ x ∧ x ≤ 255) (hy : 0 ≤ y ∧ y ≤ 255) (l : List Int) : tR.num (x :: y :: l) = x + y * 256 := by
  unfold tR.num
  rw [rd0, rd1, w64 (n := x) (by omega) (by omega), w64 (n := y) (by omega) (by omega), w64 (n := y * 256) (by omega) (by omega), w64 (by omega) (by omega)]
structure Rd (bad : Bool) (xs : List Int) (n : Int) (xs' : List Int) (bad' : Bool) (pre : List Int) : Prop where
  isB : isB xs'
  len : xs'.length ≤ xs.length
  n0 : 0 ≤ n
  n1 : n ≤ 65535
  back : bad' = false → bad = false ∧ xs = bytesOf pre ++ xs' ∧ okN pre
theorem next_rd {xs : List Int} (hb : isB xs) (bad : Bool) : Rd bad xs (tR.next xs bad).1 (tR.next xs bad).2.1 (tR.next xs bad).2.2 [(tR.next xs bad).1] := by
  unfold tR.next
  match xs, hb with
  | [], hb => exact ⟨hb, Nat.le_refl _, Int.le_refl _, (show (0 : Int) ≤ 65535 by decide), fun h => by cases h⟩
  | [x], hb => exact ⟨hb, Nat.le_refl _, Int.le_refl _, (show (0 : Int) ≤ 65535 by decide), fun h => by cases h⟩
  | x :: y :: l, hb =>
    rw [if_neg (by simp)]
    have hx := hb x (by simp)
    have hy := hb y (by simp)
    have e := num_two hx hy l
    refine ⟨fun z hz => hb z (by simp at hz ⊢; exact .inr (.inr hz)), by simp; omega, ?_, ?_, fun h => ⟨h, ?_, ?_⟩⟩
    · show 0 ≤ tR.num _; omega
    · show tR.num _ ≤ 65535; omega
    · show x :: y :: l = bytesOf [tR.num (x :: y :: l)] ++ l
      rw [e, show bytesOf [x + y * 256] = [(x + y * 256) % 256, (x + y * 256) / 256 % 256] from rfl]
      have e1 : (x + y * 256) % 256 = x := by omega
      have e2 : (x + y * 256) / 256 % 256 = y := by omega
      rw [e1, e2]; rfl
    · intro n hn
      have : n = tR.num (x :: y :: l) := by simpa using hn
      omega
theorem many_rd {xs : List Int} (hb : isB xs) (bad : Bool) : Rd bad xs (tR.many xs bad).1 (tR.many xs bad).2.1 (tR.many xs bad).2.2 [(tR.many xs bad).1] := by
  unfold tR.many
  have h := next_rd hb bad
  generalize tR.next xs bad = r at *
  obtain ⟨n, xs', bad'⟩ := r
  by_cases c : wrap64 (2 * n) > (xs'.length : Int)
  · rw [if_pos c]
    exact ⟨h.isB, h.len, Int.le_refl _, (show (0 : Int) ≤ 65535 by decide), fun h => by cases h⟩
  · rw [if_neg c]
    exact h
theorem next_fw {n : Int} (h0 : 0 ≤ n) (h1 : n ≤ 65535) (rest : List Int) (bad : Bool) : tR.next (by2 n ++ rest) bad = (n, rest, bad) := by
  unfold tR.next by2
  rw [if_neg (by simp)]
  have e := num_two (x := n % 256) (y := n / 256 % 256) (by omega) (by omega) rest
  have e2 : n % 256 + n / 256 % 256 * 256 = n := by omega
  rw [e2] at e
  show (tR.num (n % 256 :: n / 256 % 256 :: rest), rest, bad) = _
  rw [e]
theorem many_fw {n : Int} (h0 : 0 ≤ n) (h1 : n ≤ 65535) (rest : List Int) (bad : Bool) (hr : 2 * n ≤ (rest.length : Int)) : tR.many (by2 n ++ rest) bad = (n, rest, bad) := by
  unfold tR.many
  rw [next_fw h0 h1]
  simp only
  rw [w64 (by omega) (by omega), if_neg (by omega)]

theorem okN_app {a b : List Int} (ha : okN a) (hb : okN b) : okN (a ++ b) := fun n hn => by
  rcases List.mem_append.1 hn with h | h
  · exact ha n h
  · exact hb n h
theorem wayL_rd {n : Int} (hn : n ≤ 65535) : ∀ (d i : Nat) (way xs : List Int) (bad : Bool), i + d = n.toNat → way.length = i → isB xs →
    ∃ ws xs' bad', Ev (fun q => tR.wayL q i n way xs bad) (way ++ ws, xs', bad') ∧ isB xs' ∧ xs'.length ≤ xs.length ∧ (bad' = false → bad = false ∧ xs = bytesOf ws ++ xs' ∧ okN ws ∧ ws.length = d) := by
  intro d
  induction d with
  | zero =>
    intro i way xs bad hi hw hb
    refine ⟨[], xs, bad, Ev.step (fun q => by rw [tR.wayL]) (Ev.neg (by omega) (Ev.eq (Ev.now _) (by rw [List.append_nil]))), hb, Nat.le_refl _, fun h => ⟨h, rfl, (fun z hz => by cases hz), rfl⟩⟩
  | succ d ih =>
    intro i way xs bad hi hw hb
    have h1 := next_rd hb bad
    have hg : i < 100000 ∧ way.length < 100000 := ⟨by omega, by omega⟩
    have hs : ∀ q, tR.wayL (q + 1) i n way xs bad = if (i : Int) < n then (if i < 100000 ∧ way.length < 100000 then tR.wayL q (i + 1) n (way ++ [(tR.next xs bad).1]) (tR.next xs bad).2.1 (tR.next xs bad).2.2 else none) else some (way, xs, bad) := fun q => by rw [tR.wayL]
    generalize tR.next xs bad = r at *
    obtain ⟨x, xs1, bad1⟩ := r
    obtain ⟨ws, xs', bad', hE, hb', hlen, hbk⟩ := ih (i + 1) (way ++ [x]) xs1 bad1 (by omega) (by rw [List.length_append]; simp; omega) h1.isB
    refine ⟨x :: ws, xs', bad', Ev.step hs (Ev.pos (by omega) (Ev.pos hg (Ev.eq hE (by rw [List.append_assoc]; rfl)))), hb', Nat.le_trans hlen h1.len, fun h => ?_⟩
    obtain ⟨e1, e2, e3, e4⟩ := hbk h
    obtain ⟨f1, f2, f3⟩ := h1.back e1
    refine ⟨f1, ?_, okN_app (a := [x]) f3 e3, by rw [List.length_cons, e4]⟩
    rw [f2, e2, ← List.append_assoc, ← bytesOf_app]
    rfl
theorem waysL_rd {n : Int} (hn : n ≤ 65535) : ∀ (d i : Nat) (ways : List (List Int)) (xs : List Int) (bad : Bool), i + d = n.toNat → ways.length = i → isB xs →
    ∃ ws xs' bad', Ev (fun q => tR.waysL q i n ways xs bad) (ways ++ ws, xs', bad') ∧ isB xs' ∧ xs'.length ≤ xs.length ∧ (bad' = false → bad = false ∧ xs = bytesOf (waysN ws) ++ xs' ∧ okN (waysN ws) ∧ ws.length = d) := by
  intro d
  induction d with
  | zero =>
    intro i way xs bad hi hw hb
    refine ⟨[], xs, bad, Ev.step (fun q => by rw [tR.waysL]) (Ev.neg (by omega) (Ev.eq (Ev.now _) (by rw [List.append_nil]))), hb, Nat.le_refl _, fun h => ⟨h, rfl, (fun z hz => by cases hz), rfl⟩⟩
  | succ d ih =>
    intro i ways xs bad hi hw hb
    have h1 := many_rd hb bad
    have hg : i < 100000 ∧ ways.length < 100000 := ⟨by omega, by omega⟩
    have hs : ∀ q, tR.waysL (q + 1) i n ways xs bad = if (i : Int) < n then (if i < 100000 ∧ ways.length < 100000 then (tR.wayL q 0 (tR.many xs bad).1 [] (tR.many xs bad).2.1 (tR.many xs bad).2.2).bind fun p => tR.waysL q (i + 1) n (ways ++ [p.1]) p.2.1 p.2.2 else none) else some (ways, xs, bad) := fun q => by rw [tR.waysL]
    generalize tR.many xs bad = r at *
    obtain ⟨m, xs1, bad1⟩ := r
    obtain ⟨w, xs2, bad2, hE1, hb2, hlen2, hbk2⟩ := wayL_rd h1.n1 m.toNat 0 [] xs1 bad1 (Nat.zero_add _) rfl h1.isB
    rw [List.nil_append] at hE1
    obtain ⟨ws, xs', bad', hE, hb', hlen, hbk⟩ := ih (i + 1) (ways ++ [w]) xs2 bad2 (by omega) (by rw [List.length_append]; simp; omega) hb2
    refine ⟨w :: ws, xs', bad', Ev.step hs (Ev.pos (by omega) (Ev.pos hg (Ev.bind hE1 (Ev.eq hE (by rw [List.append_assoc]; rfl))))), hb', Nat.le_trans hlen (Nat.le_trans hlen2 h1.len), fun h => ?_⟩
    obtain ⟨e1, e2, e3, e4⟩ := hbk h
    obtain ⟨f1, f2, f3, f4⟩ := hbk2 e1
    obtain ⟨g1, g2, g3⟩ := h1.back f1
    have n0 : 0 ≤ m := h1.n0
    have em : m = (w.length : Int) := by omega
    have hN : okN (wayN w) := by
      unfold wayN
      rw [← em]
      exact okN_app (a := [m]) g3 f3
    refine ⟨g1, ?_, by rw [waysN_cons]; exact okN_app hN e3, by rw [List.length_cons, e4]⟩
    rw [waysN_cons, bytesOf_app, List.append_assoc, ← e2, wayN, bytesOf_cons, List.append_assoc, ← f2, ← em]
    simpa [bytesOf] using g2
theorem spotsL_rd {n : Int} (hn : n ≤ 65535) : ∀ (d i : Nat) (sp : List S117) (xs : List Int) (bad : Bool), i + d = n.toNat → sp.length = i → isB xs →
    ∃ ws xs' bad', Ev (fun q => tR.spotsL q i n sp xs bad) (sp ++ ws, xs', bad') ∧ isB xs' ∧ xs'.length ≤ xs.length ∧ (bad' = false → bad = false ∧ xs = bytesOf (spotsN ws) ++ xs' ∧ okN (spotsN ws) ∧ ws.length = d) := by
  intro d
  induction d with
  | zero =>
    intro i way xs bad hi hw hb
    refine ⟨[], xs, bad, Ev.step (fun q => by rw [tR.spotsL]) (Ev.neg (by omega) (Ev.eq (Ev.now _) (by rw [List.append_nil]))), hb, Nat.le_refl _, fun h => ⟨h, rfl, (fun z hz => by cases hz), rfl⟩⟩
  | succ d ih =>
    intro i sp xs bad hi hw hb
    have hg : i < 100000 ∧ sp.length < 100000 := ⟨by omega, by omega⟩
    have hs : ∀ q, tR.spotsL (q + 1) i n sp xs bad = if (i : Int) < n then (if i < 100000 ∧ sp.length < 100000 then (tR.waysL q 0 (tR.four xs bad).2.2.2.1 [] (tR.four xs bad).2.2.2.2.1 (tR.four xs bad).2.2.2.2.2).bind fun p => tR.spotsL q (i + 1) n (sp ++ [⟨(tR.four xs bad).1, (tR.four xs bad).2.1, (tR.four xs bad).2.2.1, p.1⟩]) p.2.1 p.2.2 else none) else some (sp, xs, bad) := fun q => by rw [tR.spotsL]
    simp only [tR.four] at hs
    have h1 := next_rd hb bad
    generalize tR.next xs bad = r1 at *
    obtain ⟨a, xs1, bad1⟩ := r1
    have h2 := next_rd h1.isB bad1
    simp only at h1 h2 hs
    generalize tR.next xs1 bad1 = r2 at *
    obtain ⟨b, xs2, bad2⟩ := r2
    have h3 := next_rd h2.isB bad2
    simp only at h2 h3 hs
    generalize tR.next xs2 bad2 = r3 at *
    obtain ⟨c, xs3, bad3⟩ := r3
    have h4 := many_rd h3.isB bad3
    simp only at h3 h4 hs
    generalize tR.many xs3 bad3 = r4 at *
    obtain ⟨m, xs4, bad4⟩ := r4
    simp only at h4 hs
    obtain ⟨ws, xs5, bad5, hE1, hb5, hlen5, hbk5⟩ := waysL_rd h4.n1 m.toNat 0 [] xs4 bad4 (Nat.zero_add _) rfl h4.isB
    rw [List.nil_append] at hE1
    obtain ⟨ss, xs', bad', hE, hb', hlen, hbk⟩ := ih (i + 1) (sp ++ [⟨a, b, c, ws⟩]) xs5 bad5 (by omega) (by rw [List.length_append]; simp; omega) hb5
    refine ⟨⟨a, b, c, ws⟩ :: ss, xs', bad', Ev.step hs (Ev.pos (by omega) (Ev.pos hg (Ev.bind hE1 (Ev.eq hE (by rw [List.append_assoc]; rfl))))), hb', Nat.le_trans hlen (Nat.le_trans hlen5 (Nat.le_trans h4.len (Nat.le_trans h3.len (Nat.le_trans h2.len h1.len)))), fun h => ?_⟩
    obtain ⟨e1, e2, e3, e4⟩ := hbk h
    obtain ⟨f1, f2, f3, f4⟩ := hbk5 e1
    obtain ⟨g1, g2, g3⟩ := h4.back f1
    obtain ⟨i1, i2, i3⟩ := h3.back g1
    obtain ⟨j1, j2, j3⟩ := h2.back i1
    obtain ⟨k1, k2, k3⟩ := h1.back j1
    have n0 : 0 ≤ m := h4.n0
    have em : m = (ws.length : Int) := by omega
    have es : spotN ⟨a, b, c, ws⟩ = [a] ++ ([b] ++ ([c] ++ ([m] ++ waysN ws))) := by unfold spotN; rw [em]; rfl
    refine ⟨k1, ?_, by rw [spotsN_cons, es]; exact okN_app (okN_app k3 (okN_app j3 (okN_app i3 (okN_app g3 f3)))) e3, by rw [List.length_cons, e4]⟩
    rw [spotsN_cons, es, bytesOf_app, List.append_assoc, ← e2, bytesOf_app, bytesOf_app, bytesOf_app, bytesOf_app, List.append_assoc, List.append_assoc, List.append_assoc, List.append_assoc, ← f2, ← g2, ← i2, ← j2]
    exact k2

/-! Reading what was written. -/
theorem wayL_fw {n : Int} (hn : n ≤ 65535) : ∀ (ws : List Int) (i : Nat) (way rest : List Int), (i : Int) + ws.length = n → way.length = i → okN ws →
    Ev (fun q => tR.wayL q i n way (bytesOf ws ++ rest) false) (way ++ ws, rest, false) := by
  intro ws
  induction ws with
  | nil =>
    intro i way rest hi hw ho
    simp at hi
    exact Ev.step (fun q => by rw [tR.wayL]) (Ev.neg (by omega) (Ev.eq (Ev.now _) (by rw [List.append_nil]; rfl)))
  | cons x ws ih =>
    intro i way rest hi hw ho
    simp only [List.length_cons] at hi
    have hx := ho x (by simp)
    have hg : i < 100000 ∧ way.length < 100000 := ⟨by omega, by omega⟩
    refine Ev.step (fun q => by rw [tR.wayL]) ?_
    rw [bytesOf_cons, List.append_assoc, next_fw hx.1 hx.2]
    refine Ev.pos (by omega) (Ev.pos hg ?_)
    have := ih (i + 1) (way ++ [x]) rest (by omega) (by simp; omega) (fun z hz => ho z (List.mem_cons_of_mem _ hz))
    rw [List.append_assoc] at this
    exact this
theorem waysL_fw {n : Int} (hn : n ≤ 65535) : ∀ (ws : List (List Int)) (i : Nat) (ways : List (List Int)) (rest : List Int), (i : Int) + ws.length = n → ways.length = i → okN (waysN ws) →
    Ev (fun q => tR.waysL q i n ways (bytesOf (waysN ws) ++ rest) false) (ways ++ ws, rest, false) := by
  intro ws
  induction ws with
  | nil =>
    intro i way rest hi hw ho
    simp at hi
    exact Ev.step (fun q => by rw [tR.waysL]) (Ev.neg (by omega) (Ev.eq (Ev.now _) (by rw [List.append_nil]; rfl)))
  | cons w ws ih =>
    intro i ways rest hi hw ho
    simp only [List.length_cons] at hi
    rw [waysN_cons] at ho ⊢
    have hl := ho (w.length : Int) (by simp [wayN])
    have how : okN w := fun z hz => ho z (by simp [wayN, hz])
    have hg : i < 100000 ∧ ways.length < 100000 := ⟨by omega, by omega⟩
    refine Ev.step (fun q => by rw [tR.waysL]) ?_
    rw [bytesOf_app, wayN, bytesOf_cons, List.append_assoc, List.append_assoc, many_fw hl.1 hl.2 _ _ (by rw [List.length_append, bytesOf_len]; omega)]
    refine Ev.pos (by omega) (Ev.pos hg (Ev.bind (wayL_fw hl.2 w 0 [] _ (by simp) rfl how) ?_))
    have := ih (i + 1) (ways ++ [w]) rest (by omega) (by simp; omega) (fun z hz => ho z (List.mem_append.2 (.inr hz)))
    rw [List.append_assoc] at this
    exact this
theorem spotsL_fw {n : Int} (hn : n ≤ 65535) : ∀ (ss : List S117) (i : Nat) (sp : List S117) (rest : List Int), (i : Int) + ss.length = n → sp.length = i → okN (spotsN ss) →
    Ev (fun q => tR.spotsL q i n sp (bytesOf (spotsN ss) ++ rest) false) (sp ++ ss, rest, false) := by
  intro ss
  induction ss with
  | nil =>
    intro i way rest hi hw ho
    simp at hi
    exact Ev.step (fun q => by rw [tR.spotsL]) (Ev.neg (by omega) (Ev.eq (Ev.now _) (by rw [List.append_nil]; rfl)))
  | cons s ss ih =>
    intro i sp rest hi hw ho
    simp only [List.length_cons] at hi
    rw [spotsN_cons] at ho ⊢
    have e : ∀ n ∈ spotN s, 0 ≤ n ∧ n ≤ 65535 := fun z hz => ho z (List.mem_append.2 (.inl hz))
    have h0 := e s.f0 (by simp [spotN])
    have h1 := e s.f1 (by simp [spotN])
    have h2 := e s.f2 (by simp [spotN])
    have h3 := e (s.f3.length : Int) (by simp [spotN])
    have h4 : okN (waysN s.f3) := fun z hz => e z (by simp [spotN, hz])
    have hg : i < 100000 ∧ sp.length < 100000 := ⟨by omega, by omega⟩
    have hwl := waysN_len s.f3
    have hf : tR.four (bytesOf (spotN s ++ spotsN ss) ++ rest) false = (s.f0, s.f1, s.f2, (s.f3.length : Int), bytesOf (waysN s.f3) ++ (bytesOf (spotsN ss) ++ rest), false) := by
      unfold tR.four
      rw [show bytesOf (spotN s ++ spotsN ss) ++ rest = by2 s.f0 ++ (by2 s.f1 ++ (by2 s.f2 ++ (by2 (s.f3.length : Int) ++ (bytesOf (waysN s.f3) ++ (bytesOf (spotsN ss) ++ rest))))) by unfold spotN; simp [bytesOf_app, bytesOf_cons]]
      simp only [next_fw h0.1 h0.2, next_fw h1.1 h1.2, next_fw h2.1 h2.2]
      rw [many_fw h3.1 h3.2 _ _ (by rw [List.length_append, bytesOf_len]; omega)]
    refine Ev.step (fun q => by rw [tR.spotsL]) ?_
    rw [hf]
    refine Ev.pos (by omega) (Ev.pos hg (Ev.bind (waysL_fw h3.2 s.f3 0 [] _ (by simp) rfl h4) ?_))
    have := ih (i + 1) (sp ++ [s]) rest (by omega) (by simp; omega) (fun z hz => ho z (List.mem_append.2 (.inr hz)))
    rw [List.append_assoc] at this
    exact this

theorem equal_spec {a b : List Int} (ha : isB a) (hb : isB b) : bytes_Equal.f a b = some (decide (a = b)) := by
  unfold bytes_Equal.f
  rw [chars_eq ha hb]
theorem isB_take {xs : List Int} (h : isB xs) (n : Nat) : isB (xs.take n) := fun x hx => h x (List.mem_of_mem_take hx)
theorem isB_drop {xs : List Int} (h : isB xs) (n : Nat) : isB (xs.drop n) := fun x hx => h x (List.mem_of_mem_drop hx)
/-- What Unpack tells of any bytes: either it is as it was packed, or nothing comes back. -/
theorem unpack_rd {b : List Int} (hb : isB b) (hl : b.length ≤ 140737488355328) : ∃ r : List S117 × Int × Int, Ev (fun k => store_Unpack.f k b) r ∧ ((r.2.2 = 0 ∧ b.length ≤ 4000 ∧ b = bytesOf (numsT r.1 r.2.1) ++ sumOf (bytesOf (numsT r.1 r.2.1)) ∧ okN (numsT r.1 r.2.1) ∧ Ev (fun k => store_sound.f k r.1 r.2.1) true) ∨ (r.2.2 ≠ 0 ∧ r.1 = [] ∧
    (b.length ≤ 4000 → 4 ≤ b.length → sumOf (b.take (b.length - 4)) ≠ b.drop (b.length - 4) → r.2.2 = 7))) := by
  unfold store_Unpack.f
  by_cases c1 : b.length > 4000
  · exact ⟨([], 0, 1), Ev.pos c1 (Ev.now _), .inr ⟨by decide, rfl, fun h => by omega⟩⟩
  by_cases c2 : b.length < 4
  · exact ⟨([], 0, 7), Ev.neg c1 (Ev.pos c2 (Ev.now _)), .inr ⟨by decide, rfl, fun _ h => by omega⟩⟩
  have hB := isB_take hb (b.length - 4)
  have hS : Ev (fun k => store_Sum.f k (b.take (b.length - 4))) (sumOf (b.take (b.length - 4))) := ss_sum _ hB (by rw [List.length_take]; omega)
  have hE := equal_spec (sumOf_isB (b.take (b.length - 4))) (isB_drop hb (b.length - 4))
  by_cases c3 : sumOf (b.take (b.length - 4)) = b.drop (b.length - 4)
  case neg =>
    refine ⟨([], 0, 7), Ev.neg c1 (Ev.neg c2 (Ev.bind hS (Ev.bindc hE (Ev.neg (by simpa using c3) (Ev.now _))))), .inr ⟨by decide, rfl, fun _ _ _ => rfl⟩⟩
  have hbody : ∃ r : List S117 × Int × Int, Ev (fun k => tU.body k (b.take (b.length - 4))) r ∧ ((r.2.2 = 0 ∧ b.take (b.length - 4) = bytesOf (numsT r.1 r.2.1) ∧ okN (numsT r.1 r.2.1) ∧ Ev (fun k => store_sound.f k r.1 r.2.1) true) ∨ (r.2.2 ≠ 0 ∧ r.1 = [])) := by
    unfold tU.body
    have h1 := next_rd hB false
    generalize tR.next (b.take (b.length - 4)) false = r1 at *
    obtain ⟨root, xs1, bad1⟩ := r1
    have h2 := many_rd h1.isB bad1
    simp only at h1 h2 ⊢
    generalize tR.many xs1 bad1 = r2 at *
    obtain ⟨n, xs2, bad2⟩ := r2
    simp only at h2 ⊢
    obtain ⟨sp, xs3, bad3, hE3, hb3, hlen3, hbk3⟩ := spotsL_rd h2.n1 n.toNat 0 [] xs2 bad2 (Nat.zero_add _) rfl h2.isB
    rw [List.nil_append] at hE3
    by_cases c4 : bad3 = true ∨ 0 < xs3.length
    · exact ⟨([], 0, 3), Ev.bind hE3 (Ev.pos c4 (Ev.now _)), .inr ⟨by decide, rfl⟩⟩
    have hbad : bad3 = false := by
      cases bad3
      · rfl
      · exact absurd (.inl rfl) c4
    have hxs : xs3 = [] := List.eq_nil_of_length_eq_zero (by omega)
    obtain ⟨e1, e2, e3, e4⟩ := hbk3 hbad
    obtain ⟨f1, f2, f3⟩ := h2.back e1
    obtain ⟨g1, g2, g3⟩ := h1.back f1
    have n0 : 0 ≤ n := h2.n0
    have en : n = (sp.length : Int) := by omega
    have enums : numsT sp root = [root] ++ ([n] ++ spotsN sp) := by unfold numsT; rw [en]; rfl
    have eb : b.take (b.length - 4) = bytesOf (numsT sp root) := by
      subst hxs
      rw [List.append_nil] at e2
      rw [enums, bytesOf_app, bytesOf_app, ← e2, ← f2]
      exact g2
    have hsl : (spotsN sp).length ≤ 2000000 := by
      have := congrArg List.length eb
      rw [bytesOf_len, List.length_take] at this
      have h9 : (numsT sp root).length = 2 + (spotsN sp).length := by unfold numsT; simp; omega
      omega
    obtain ⟨s, hs, _⟩ := sound_ev sp root (wide_of hsl)
    cases s
    · exact ⟨([], 0, 3), Ev.bind hE3 (Ev.neg c4 (Ev.bind hs (Ev.neg (by decide) (Ev.now _)))), .inr ⟨by decide, rfl⟩⟩
    · exact ⟨(sp, root, 0), Ev.bind hE3 (Ev.neg c4 (Ev.bind hs (Ev.pos rfl (Ev.now _)))), .inl ⟨rfl, eb, by rw [enums]; exact okN_app g3 (okN_app f3 e3), hs⟩⟩
  obtain ⟨r, hr, hrr⟩ := hbody
  refine ⟨r, Ev.neg c1 (Ev.neg c2 (Ev.bind hS (Ev.bindc hE (Ev.pos (by simpa using c3) hr)))), ?_⟩
  rcases hrr with ⟨h0, h1, h2, h3⟩ | ⟨h0, h1⟩
  · refine .inl ⟨h0, by omega, ?_, h2, h3⟩
    rw [← h1, c3, List.take_append_drop]
  · exact .inr ⟨h0, h1, fun _ _ h => absurd c3 h⟩
/-- What was packed comes back. -/
theorem unpack_fw {sp : List S117} {root : Int} (ho : okN (numsT sp root)) (hl : 2 * (numsT sp root).length + 4 ≤ 4000) (hs : Ev (fun k => store_sound.f k sp root) true) : Ev (fun k => store_Unpack.f k (bytesOf (numsT sp root) ++ sumOf (bytesOf (numsT sp root)))) (sp, root, 0) := by
  unfold store_Unpack.f
  have hlen : (bytesOf (numsT sp root) ++ sumOf (bytesOf (numsT sp root))).length = 2 * (numsT sp root).length + 4 := by rw [List.length_append, bytesOf_len, sumOf_len]
  have ht : (bytesOf (numsT sp root) ++ sumOf (bytesOf (numsT sp root))).take ((bytesOf (numsT sp root) ++ sumOf (bytesOf (numsT sp root))).length - 4) = bytesOf (numsT sp root) := List.take_left' (by rw [hlen, bytesOf_len]; omega)
  have hd : (bytesOf (numsT sp root) ++ sumOf (bytesOf (numsT sp root))).drop ((bytesOf (numsT sp root) ++ sumOf (bytesOf (numsT sp root))).length - 4) = sumOf (bytesOf (numsT sp root)) := List.drop_left' (by rw [hlen, bytesOf_len]; omega)
  rw [ht, hd, hlen]
  refine Ev.neg (by omega) (Ev.neg (by omega) (Ev.bind (ss_sum _ (bytesOf_isB _) (by rw [bytesOf_len]; omega)) (Ev.bindc (equal_spec (sumOf_isB _) (sumOf_isB _)) (Ev.pos (decide_eq_true rfl) ?_))))
  unfold tU.body
  have hr := ho root (by simp [numsT])
  have hn := ho (sp.length : Int) (by simp [numsT])
  have e : bytesOf (numsT sp root) = by2 root ++ (by2 (sp.length : Int) ++ (bytesOf (spotsN sp) ++ [])) := by unfold numsT; simp [bytesOf_app, bytesOf_cons]
  have hsp := spots_len sp
  rw [e, next_fw hr.1 hr.2]
  simp only
  rw [many_fw hn.1 hn.2 _ _ (by rw [List.length_append, bytesOf_len]; omega)]
  refine Ev.bind (spotsL_fw hn.2 sp 0 [] [] (by simp) rfl (fun z hz => ho z (by simp [numsT, hz]))) (Ev.neg (by simp) (Ev.bind hs (Ev.pos rfl (Ev.now _))))

/-! Two thickets that are the same. -/
theorem ints_same (a : List Int) (ha : a.length ≤ 4000000) : Ev (fun k => coppicerref_Ints.f k a a) true := by
  have loop : ∀ (d i : Nat), i + d = a.length → Ev (fun k => coppicerref_Ints.l0 k a a (i : Int)) true := by
    intro d
    induction d with
    | zero => intro i hi; exact Ev.step (fun k => by rw [coppicerref_Ints.l0]) (Ev.neg (by omega) (Ev.now _))
    | succ d ih =>
      intro i hi
      refine Ev.step (fun k => by rw [coppicerref_Ints.l0]) (Ev.pos (by omega) (Ev.pos (by omega) (Ev.pos (by omega) (Ev.pos rfl ?_))))
      rw [w64 (by omega) (by omega)]
      exact ih (i + 1) (by omega)
  unfold coppicerref_Ints.f
  exact Ev.pos rfl (loop a.length 0 (by omega))
theorem lists_same (a : List (List Int)) (ha : (a.map List.length).sum + a.length ≤ 2000000) : Ev (fun k => coppicerref_Lists.f k a a) true := by
  have loop : ∀ (d i : Nat), i + d = a.length → Ev (fun k => coppicerref_Lists.l0 k a a (i : Int)) true := by
    intro d
    induction d with
    | zero => intro i hi; exact Ev.step (fun k => by rw [coppicerref_Lists.l0]) (Ev.neg (by omega) (Ev.now _))
    | succ d ih =>
      intro i hi
      refine Ev.step (fun k => by rw [coppicerref_Lists.l0]) ?_
      rw [rdl_nat, w64 (by omega) (by omega)]
      have := sum_mem (getD_mem (xs := a) (i := i) (d := []) (by omega))
      exact Ev.pos (by omega) (Ev.pos (by omega) (Ev.pos (by omega) (Ev.bind (ints_same _ (by omega)) (Ev.pos rfl (ih (i + 1) (by omega))))))
  unfold coppicerref_Lists.f
  exact Ev.pos rfl (loop a.length 0 (by omega))
theorem same_spec (sp : List S117) (root : Int) (hw : wide sp) (hl : sp.length ≤ 2000000) : Ev (fun k => coppicerref_ThicketSame.f k sp root sp root) true := by
  have loop : ∀ (d i : Nat), i + d = sp.length → Ev (fun k => coppicerref_ThicketSame.l0 k (i : Int) sp root sp root) true := by
    intro d
    induction d with
    | zero => intro i hi; exact Ev.step (fun k => by rw [coppicerref_ThicketSame.l0]) (Ev.neg (by omega) (Ev.now _))
    | succ d ih =>
      intro i hi
      refine Ev.step (fun k => by rw [coppicerref_ThicketSame.l0]) ?_
      rw [rdT_nat, w64 (by omega) (by omega)]
      have := hw _ (getD_mem (xs := sp) (i := i) (d := z117) (by omega))
      exact Ev.pos (by omega) (Ev.pos (by omega) (Ev.pos (by omega) (Ev.pos rfl (Ev.pos rfl (Ev.pos rfl (Ev.bind (lists_same _ this) (Ev.pos rfl (ih (i + 1) (by omega)))))))))
  unfold coppicerref_ThicketSame.f
  refine Ev.pos rfl (Ev.step (fun k => by rw [coppicerref_ThicketSame.j0]) ?_)
  exact Ev.neg (by simp) (loop sp.length 0 (by omega))

end Go.Proofs.Ythgiiikjcfhgjaa.PKM
