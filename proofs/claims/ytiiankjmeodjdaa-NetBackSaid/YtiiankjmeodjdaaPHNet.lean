/- Words on nets in plain Lean: what net.Check, net.Free, net.Step and net.Run answer. Conditions: none beyond the kinds of the arguments. -/
import Derived.Test.YtiiankjmeodjdaaPHMachine0
import Derived.Test.YtiiankjmeodjdaaGH5
namespace Go.Proofs.Ytiiankjmeodjdaa.PHM
set_option linter.unusedVariables false
set_option linter.unusedSimpArgs false
open Go.RowKit Go.Proofs.Ytiiankjmeodjdaa.GH Go.Proofs.YtiiankjmeodjdaaW.PrintWords Go.Proofs.YtiiankjmeodjdaaW.PrintLast Go.Proofs.YtiiankjmeodjdaaW.PrintMore

theorem rdT_nat (xs : List S27) (i : Nat) : rd_T27 xs (i : Int) = xs.getD i z27 := by simp [rd_T27]
theorem bit_nat (S : Nat) (i : Int) : bit (S : Int) i = S.testBit i.toNat := by unfold bit; rw [Int.toNat_natCast]
theorem pow_cast (m : Nat) : ((2 : Int) ^ m) = ((2 ^ m : Nat) : Int) := by simp
theorem pow_le7 {m : Nat} (h : m ≤ 7) : 2 ^ m ≤ 128 := Nat.pow_le_pow_right (n := 2) (by omega) h
theorem or_bit {S : Nat} (hS : S < 4294967296) {t : Int} (h0 : 0 ≤ t) (h1 : t < 32) : Go.bits .or .u32 (S : Int) (shl .u32 1 t) = ((S ||| 2 ^ t.toNat : Nat) : Int) := by
  rw [shl_one h0 h1, pow_cast, u32_or_nat _ _ hS (by
    have : 2 ^ t.toNat ≤ 2 ^ 31 := Nat.pow_le_pow_right (by omega) (by omega)
    omega)]
structure GoodA (n k : Int) (a : S27) : Prop where
  f0 : 0 ≤ a.f0
  f1 : a.f0 < n
  t0 : 0 ≤ a.f2
  t1 : a.f2 < n
  s0 : -1 ≤ a.f1
  s1 : a.f1 < k
/-- A net as the document has it. -/
structure GoodN (n k : Int) (arcs : List S27) (st f : Int) : Prop where
  n1 : 1 ≤ n
  n7 : n ≤ 7
  k1 : 1 ≤ k
  k3 : k ≤ 3
  len : arcs.length ≤ 60
  arc : ∀ a ∈ arcs, GoodA n k a
  st : st < 2 ^ n.toNat
  fin : f < 2 ^ n.toNat
/-- One round of what comes by no symbol. -/
def passF (S : Nat) (a : S27) : Nat := if a.f1 < 0 then (if S.testBit a.f0.toNat = true then S ||| 2 ^ a.f2.toNat else S) else S
def passS (arcs : List S27) (S : Nat) : Nat := arcs.foldl passF S
/-- By a symbol. -/
def stepF (S : Nat) (s : Int) (T : Nat) (a : S27) : Nat := if a.f1 = s then (if S.testBit a.f0.toNat = true then T ||| 2 ^ a.f2.toNat else T) else T
def stepS (arcs : List S27) (S : Nat) (s : Int) : Nat := arcs.foldl (stepF S s) 0
def freeN (arcs : List S27) : Nat → Nat → Nat
  | 0, S => S
  | d + 1, S => if passS arcs S = S then S else freeN arcs d (passS arcs S)
def freeS (arcs : List S27) (S : Nat) : Nat := freeN arcs 128 S
theorem or_lt {n k : Int} {a : S27} (h : GoodA n k a) {S : Nat} (hS : S < 2 ^ n.toNat) : S ||| 2 ^ a.f2.toNat < 2 ^ n.toNat := by
  have := h.t0; have := h.t1
  exact Nat.or_lt_two_pow hS (Nat.pow_lt_pow_right (by omega) (by omega))
theorem pass_fold {n k : Int} : ∀ {arcs : List S27}, (∀ a ∈ arcs, GoodA n k a) → ∀ {S : Nat}, S < 2 ^ n.toNat → passS arcs S < 2 ^ n.toNat ∧ S ≤ passS arcs S
  | [], _, S, hS => ⟨hS, Nat.le_refl _⟩
  | a :: arcs, ha, S, hS => by
    have h1 := ha a List.mem_cons_self
    have hc : ∀ {T : Nat}, T < 2 ^ n.toNat → S ≤ T → passS arcs T < 2 ^ n.toNat ∧ S ≤ passS arcs T := fun hT hle => by
      have := pass_fold (fun x hx => ha x (List.mem_cons_of_mem _ hx)) hT
      exact ⟨this.1, Nat.le_trans hle this.2⟩
    show passS arcs (passF S a) < 2 ^ n.toNat ∧ S ≤ passS arcs (passF S a)
    unfold passF
    split
    · split
      · exact hc (or_lt h1 hS) Nat.left_le_or
      · exact hc hS (Nat.le_refl _)
    · exact hc hS (Nat.le_refl _)
theorem free_lt {n k : Int} {arcs : List S27} (ha : ∀ a ∈ arcs, GoodA n k a) : ∀ (d : Nat) {S : Nat}, S < 2 ^ n.toNat → freeN arcs d S < 2 ^ n.toNat
  | 0, S, hS => hS
  | d + 1, S, hS => by
    unfold freeN
    split
    · exact hS
    · exact free_lt ha d (pass_fold ha hS).1
theorem step_fold {n k : Int} (s : Int) (S : Nat) : ∀ {arcs : List S27}, (∀ a ∈ arcs, GoodA n k a) → ∀ {T : Nat}, T < 2 ^ n.toNat → arcs.foldl (stepF S s) T < 2 ^ n.toNat
  | [], _, T, hT => hT
  | a :: arcs, ha, T, hT => by
    have h1 := ha a List.mem_cons_self
    refine step_fold s S (fun x hx => ha x (List.mem_cons_of_mem _ hx)) ?_
    unfold stepF
    split
    · split
      · exact or_lt h1 hT
      · exact hT
    · exact hT

theorem netcheck_loop (n k : Int) (st f : Int) (arcs0 : List S27) (s0 : 0 ≤ st) (s1 : st < 4294967296) (f0 : 0 ≤ f) (f1 : f < 4294967296) (hn : 0 ≤ n) (arcs : List S27) (hl : arcs.length ≤ 60) : ∀ (d i : Nat), i + d = arcs.length →
    ∃ e, Ev (fun q => net_Check.l0 q arcs (arcs.length : Int) (i : Int) n k arcs0 st f) e ∧ (e = 0 ↔ (∀ a ∈ arcs.drop i, GoodA n k a) ∧ st < 2 ^ n.toNat ∧ f < 2 ^ n.toNat) := by
  obtain ⟨ST, rfl⟩ := Int.eq_ofNat_of_zero_le s0
  obtain ⟨F, rfl⟩ := Int.eq_ofNat_of_zero_le f0
  intro d
  induction d with
  | zero =>
    intro i hi
    rw [List.drop_eq_nil_of_le (by omega)]
    have hor : Go.bits .or .u32 (ST : Int) (F : Int) = ((ST ||| F : Nat) : Int) := u32_or_nat _ _ (by omega) (by omega)
    have hlt : ST ||| F < 2 ^ 32 := Nat.or_lt_two_pow (by omega) (by omega)
    have hz := shr_zero (x := ((ST ||| F : Nat) : Int)) (by omega) (by omega) hn
    have hiff : ((ST ||| F : Nat) : Int) < 2 ^ n.toNat ↔ (ST : Int) < 2 ^ n.toNat ∧ (F : Int) < 2 ^ n.toNat := by
      rw [pow_cast]
      constructor
      · intro h
        have h : ST ||| F < 2 ^ n.toNat := Int.ofNat_lt.1 h
        exact ⟨Int.ofNat_lt.2 (Nat.lt_of_le_of_lt Nat.left_le_or h), Int.ofNat_lt.2 (Nat.lt_of_le_of_lt Nat.right_le_or h)⟩
      · intro h
        exact Int.ofNat_lt.2 (Nat.or_lt_two_pow (Int.ofNat_lt.1 h.1) (Int.ofNat_lt.1 h.2))
    rw [hiff] at hz
    by_cases c : (ST : Int) < 2 ^ n.toNat ∧ (F : Int) < 2 ^ n.toNat
    · refine ⟨0, Ev.step (fun q => by rw [net_Check.l0]) (Ev.neg (by omega) (Ev.pos hn ?_)), fun _ => ⟨fun a ha => absurd ha (by simp), c⟩, fun _ => rfl⟩
      rw [hor]
      exact Ev.pos (hz.2 c) (Ev.now _)
    · refine ⟨4, Ev.step (fun q => by rw [net_Check.l0]) (Ev.neg (by omega) (Ev.pos hn ?_)), fun h => absurd h (by decide), fun h => absurd h.2 c⟩
      rw [hor]
      exact Ev.neg (fun h => c (hz.1 h)) (Ev.now _)
  | succ d ih =>
    intro i hi
    have hlt : i < arcs.length := by omega
    obtain ⟨e, he, hie⟩ := ih (i + 1) (by omega)
    rw [drop_cons hlt z27]
    have pre : ∀ {r : Int}, Ev (fun q => (if (mn ((arcs.getD i z27).f0) ((arcs.getD i z27).f2)) < 0 then (some 2) else (if (mx ((arcs.getD i z27).f0) ((arcs.getD i z27).f2)) ≥ n then (some 2) else (if ((arcs.getD i z27).f1) < (-1) then (some 2) else (if ((arcs.getD i z27).f1) ≥ k then (some 2) else (net_Check.l0 q arcs (arcs.length : Int) ((i + 1 : Nat) : Int) n k arcs0 ST F)))))) r → Ev (fun q => net_Check.l0 q arcs (arcs.length : Int) (i : Int) n k arcs0 ST F) r := by
      intro r h
      refine Ev.step (fun q => by rw [net_Check.l0]) ?_
      refine Ev.pos (by omega) ?_
      refine Ev.pos (by omega) ?_
      refine Ev.pos (by omega) ?_
      rw [rdT_nat, w64 (n := (i : Int) + 1) (by omega) (by omega)]
      exact h
    generalize arcs.getD i z27 = a at pre
    have two : (¬ GoodA n k a) → ((2 : Int) = 0 ↔ (∀ x ∈ a :: arcs.drop (i + 1), GoodA n k x) ∧ (ST : Int) < 2 ^ n.toNat ∧ (F : Int) < 2 ^ n.toNat) := fun hb => ⟨fun h => absurd h (by decide), fun h => absurd (h.1 a List.mem_cons_self) hb⟩
    by_cases c1 : mn a.f0 a.f2 < 0
    · refine ⟨2, pre (Ev.pos c1 (Ev.now _)), two fun h => ?_⟩
      have := h.f0; have := h.t0
      unfold mn at c1; split at c1 <;> omega
    · by_cases c2 : mx a.f0 a.f2 ≥ n
      · refine ⟨2, pre (Ev.neg c1 (Ev.pos c2 (Ev.now _))), two fun h => ?_⟩
        have := h.f1; have := h.t1
        unfold mx at c2; split at c2 <;> omega
      · by_cases c3 : a.f1 < -1
        · exact ⟨2, pre (Ev.neg c1 (Ev.neg c2 (Ev.pos c3 (Ev.now _)))), two fun h => by have := h.s0; omega⟩
        · by_cases c4 : a.f1 ≥ k
          · exact ⟨2, pre (Ev.neg c1 (Ev.neg c2 (Ev.neg c3 (Ev.pos c4 (Ev.now _))))), two fun h => by have := h.s1; omega⟩
          · refine ⟨e, pre (Ev.neg c1 (Ev.neg c2 (Ev.neg c3 (Ev.neg c4 he)))), ?_⟩
            rw [hie]
            have ga : GoodA n k a := by
              unfold mn at c1; unfold mx at c2
              exact ⟨by split at c1 <;> omega, by split at c2 <;> omega, by split at c1 <;> omega, by split at c2 <;> omega, by omega, by omega⟩
            constructor
            · intro h
              refine ⟨fun x hx => ?_, h.2⟩
              rcases List.mem_cons.1 hx with rfl | hx
              · exact ga
              · exact h.1 x hx
            · exact fun h => ⟨fun x hx => h.1 x (List.mem_cons_of_mem _ hx), h.2⟩
theorem netcheck_spec {n k : Int} {arcs : List S27} {st f : Int} (s0 : 0 ≤ st) (s1 : st < 4294967296) (f0 : 0 ≤ f) (f1 : f < 4294967296) : ∃ e, Ev (fun q => net_Check.f q n k arcs st f) e ∧ (e = 0 ↔ GoodN n k arcs st f) := by
  have one : Ev (fun q => net_Check.j0 q true n k arcs st f) 1 := Ev.step (fun q => by rw [net_Check.j0]) (Ev.pos rfl (Ev.now _))
  by_cases a1 : n < 1
  · exact ⟨1, Ev.congr (fun q => by rw [net_Check.f]) (Ev.pos a1 one), fun h => absurd h (by decide), fun h => by have := h.n1; omega⟩
  by_cases a2 : n > 7
  · exact ⟨1, Ev.congr (fun q => by rw [net_Check.f]) (Ev.neg a1 (Ev.pos a2 one)), fun h => absurd h (by decide), fun h => by have := h.n7; omega⟩
  by_cases a3 : k < 1
  · exact ⟨1, Ev.congr (fun q => by rw [net_Check.f]) (Ev.neg a1 (Ev.neg a2 (Ev.pos a3 one))), fun h => absurd h (by decide), fun h => by have := h.k1; omega⟩
  by_cases a4 : k > 3
  · exact ⟨1, Ev.congr (fun q => by rw [net_Check.f]) (Ev.neg a1 (Ev.neg a2 (Ev.neg a3 (Ev.pos a4 one)))), fun h => absurd h (by decide), fun h => by have := h.k3; omega⟩
  by_cases a5 : (arcs.length : Int) > 60
  · refine ⟨1, Ev.congr (fun q => by rw [net_Check.f]) (Ev.neg a1 (Ev.neg a2 (Ev.neg a3 (Ev.neg a4 ?_)))), fun h => absurd h (by decide), fun h => by have := h.len; omega⟩
    rw [decide_eq_true a5]
    exact one
  · obtain ⟨e, he, hie⟩ := netcheck_loop n k st f arcs s0 s1 f0 f1 (by omega) arcs (by omega) arcs.length 0 (by omega)
    refine ⟨e, Ev.congr (fun q => by rw [net_Check.f]) (Ev.neg a1 (Ev.neg a2 (Ev.neg a3 (Ev.neg a4 ?_)))), ?_⟩
    · rw [decide_eq_false a5]
      refine Ev.step (fun q => by rw [net_Check.j0]) ?_
      refine Ev.neg (by decide) ?_
      exact he
    · rw [hie, List.drop_zero]
      exact ⟨fun h => ⟨by omega, by omega, by omega, by omega, by omega, h.1, h.2.1, h.2.2⟩, fun h => ⟨h.arc, h.st, h.fin⟩⟩

theorem free_l1 {n k : Int} (hn : n ≤ 7) (n' k' st' f' : Int) (arcs0 : List S27) (x6 : Int) (arcs : List S27) (hl : arcs.length ≤ 1000) (ha : ∀ a ∈ arcs, GoodA n k a) {r : Int} : ∀ (d i : Nat) (S : Nat), i + d = arcs.length → S < 2 ^ n.toNat →
    Ev (fun q => net_Free.l0 q ((passS (arcs.drop i) S : Nat) : Int) (((passS (arcs.drop i) S : Nat) : Int) != x6) n' k' arcs0 st' f') r →
    Ev (fun q => net_Free.l1 q (S : Int) x6 arcs (arcs.length : Int) (i : Int) n' k' arcs0 st' f') r := by
  intro d
  induction d with
  | zero =>
    intro i S hi hS h
    rw [List.drop_eq_nil_of_le (by omega)] at h
    refine Ev.step (fun q => by rw [net_Free.l1]) ?_
    refine Ev.neg (by omega) ?_
    exact h
  | succ d ih =>
    intro i S hi hS h
    have hlt : i < arcs.length := by omega
    have ga := ha _ (getD_mem (d := z27) hlt)
    have hp : 2 ^ n.toNat ≤ 128 := pow_le7 (by omega)
    rw [drop_cons hlt z27] at h
    refine Ev.step (fun q => by rw [net_Free.l1]) ?_
    refine Ev.pos (by omega) ?_
    refine Ev.pos (by omega) ?_
    refine Ev.pos (by omega) ?_
    rw [rdT_nat, w64 (n := (i : Int) + 1) (by omega) (by omega)]
    generalize arcs.getD i z27 = a at *
    have q1 := ga.f0; have q2 := ga.t0; have q3 := ga.t1
    by_cases c1 : a.f1 < 0
    · refine Ev.pos c1 (Ev.pos ga.f0 ?_)
      rw [shr_bit (by omega) (by omega) ga.f0, bit_nat]
      by_cases c2 : S.testBit a.f0.toNat = true
      · rw [if_pos c2]
        refine Ev.pos rfl (Ev.pos ga.t0 ?_)
        rw [or_bit (by omega) ga.t0 (by omega)]
        refine ih (i + 1) _ (by omega) (or_lt ga hS) ?_
        have e : passS (a :: arcs.drop (i + 1)) S = passS (arcs.drop (i + 1)) (S ||| 2 ^ a.f2.toNat) := by
          show passS (arcs.drop (i + 1)) (passF S a) = _
          unfold passF
          rw [if_pos c1, if_pos c2]
        rw [e] at h
        exact h
      · rw [if_neg c2]
        refine Ev.neg (by decide) (ih (i + 1) _ (by omega) hS ?_)
        have e : passS (a :: arcs.drop (i + 1)) S = passS (arcs.drop (i + 1)) S := by
          show passS (arcs.drop (i + 1)) (passF S a) = _
          unfold passF
          rw [if_pos c1, if_neg c2]
        rw [e] at h
        exact h
    · refine Ev.neg c1 (ih (i + 1) _ (by omega) hS ?_)
      have e : passS (a :: arcs.drop (i + 1)) S = passS (arcs.drop (i + 1)) S := by
        show passS (arcs.drop (i + 1)) (passF S a) = _
        unfold passF
        rw [if_neg c1]
      rw [e] at h
      exact h
theorem free_l0 {n k : Int} (hn : n ≤ 7) (n' k' st' f' : Int) (arcs : List S27) (hl : arcs.length ≤ 1000) (ha : ∀ a ∈ arcs, GoodA n k a) : ∀ (d : Nat) (S : Nat), S < 2 ^ n.toNat → 128 ≤ S + d →
    Ev (fun q => net_Free.l0 q (S : Int) true n' k' arcs st' f') (freeN arcs d S : Nat) := by
  intro d
  induction d with
  | zero =>
    intro S hS hd
    have := pow_le7 (m := n.toNat) (by omega)
    omega
  | succ d ih =>
    intro S hS hd
    have hp := pass_fold ha hS
    refine Ev.step (fun q => by rw [net_Free.l0]) (Ev.pos rfl ?_)
    refine free_l1 hn n' k' st' f' arcs (S : Int) arcs hl ha arcs.length 0 S (by omega) hS ?_
    rw [List.drop_zero]
    unfold freeN
    by_cases c : passS arcs S = S
    · rw [if_pos c, c, show (((S : Nat) : Int) != (S : Int)) = false by simp]
      exact Ev.step (fun q => by rw [net_Free.l0]) (Ev.neg (by decide) (Ev.now _))
    · rw [if_neg c, show (((passS arcs S : Nat) : Int) != (S : Int)) = true by simp; omega]
      exact ih _ hp.1 (by omega)
theorem free_good {n k : Int} {arcs : List S27} {st f : Int} (h : GoodN n k arcs st f) {S : Nat} (hS : S < 2 ^ n.toNat) : Ev (fun q => net_Free.f q n k arcs st f (S : Int)) (freeS arcs S : Nat) :=
  Ev.congr (fun q => by rw [net_Free.f]) (free_l0 h.n7 n k st f arcs (by have := h.len; omega) h.arc 128 S hS (by omega))
theorem freeS_lt {n k : Int} {arcs : List S27} {st f : Int} (h : GoodN n k arcs st f) {S : Nat} (hS : S < 2 ^ n.toNat) : freeS arcs S < 2 ^ n.toNat := free_lt h.arc 128 hS
theorem stepS_lt {n k : Int} {arcs : List S27} {st f : Int} (h : GoodN n k arcs st f) (S : Nat) (s : Int) : stepS arcs S s < 2 ^ n.toNat := step_fold s S h.arc (Nat.pow_pos (by omega))
theorem net_step_l0 {n k : Int} {arcs0 : List S27} {st f : Int} (h0 : GoodN n k arcs0 st f) (s : Int) {S : Nat} (hS : S < 2 ^ n.toNat) (arcs : List S27) (hl : arcs.length ≤ 1000) (ha : ∀ a ∈ arcs, GoodA n k a) : ∀ (d i : Nat) (T : Nat), i + d = arcs.length → T < 2 ^ n.toNat →
    Ev (fun q => net_Step.l0 q (S : Int) s (T : Int) arcs (arcs.length : Int) (i : Int) n k arcs0 st f) (freeS arcs0 ((arcs.drop i).foldl (stepF S s) T) : Nat) := by
  intro d
  induction d with
  | zero =>
    intro i T hi hT
    rw [List.drop_eq_nil_of_le (by omega)]
    exact Ev.step (fun q => by rw [net_Step.l0]) (Ev.neg (by omega) (Ev.bind (free_good h0 hT) (Ev.now _)))
  | succ d ih =>
    intro i T hi hT
    have hlt : i < arcs.length := by omega
    have ga := ha _ (getD_mem (d := z27) hlt)
    have hp : 2 ^ n.toNat ≤ 128 := pow_le7 (by have := h0.n7; omega)
    have hn7 := h0.n7
    rw [drop_cons hlt z27, List.foldl_cons]
    refine Ev.step (fun q => by rw [net_Step.l0]) ?_
    refine Ev.pos (by omega) ?_
    refine Ev.pos (by omega) ?_
    refine Ev.pos (by omega) ?_
    rw [rdT_nat, w64 (n := (i : Int) + 1) (by omega) (by omega)]
    generalize arcs.getD i z27 = a at *
    have q1 := ga.f0; have q2 := ga.t0; have q3 := ga.t1
    by_cases c1 : a.f1 = s
    · refine Ev.pos c1 (Ev.pos ga.f0 ?_)
      rw [shr_bit (by omega) (by omega) ga.f0, bit_nat]
      unfold stepF
      rw [if_pos c1]
      by_cases c2 : S.testBit a.f0.toNat = true
      · rw [if_pos c2, if_pos c2]
        refine Ev.pos rfl (Ev.pos ga.t0 ?_)
        rw [or_bit (by omega) ga.t0 (by omega)]
        exact ih (i + 1) _ (by omega) (or_lt ga hT)
      · rw [if_neg c2, if_neg c2]
        exact Ev.neg (by decide) (ih (i + 1) _ (by omega) hT)
    · unfold stepF
      rw [if_neg c1]
      exact Ev.neg c1 (ih (i + 1) _ (by omega) hT)
/-- A net's set behind a symbol, and behind a word. -/
def stN (arcs : List S27) (S : Nat) (s : Int) : Nat := freeS arcs (stepS arcs S s)
def leadsN (arcs : List S27) (S : Nat) (w : List Int) : Nat := w.foldl (stN arcs) S
theorem net_step_good {n k : Int} {arcs : List S27} {st f : Int} (h : GoodN n k arcs st f) {S : Nat} (hS : S < 2 ^ n.toNat) (s : Int) : Ev (fun q => net_Step.f q n k arcs st f (S : Int) s) (stN arcs S s : Nat) := by
  refine Ev.congr (fun q => by rw [net_Step.f]) ?_
  exact net_step_l0 h s hS arcs (by have := h.len; omega) h.arc arcs.length 0 0 (by omega) (Nat.pow_pos (by omega))
theorem stN_lt {n k : Int} {arcs : List S27} {st f : Int} (h : GoodN n k arcs st f) (S : Nat) (s : Int) : stN arcs S s < 2 ^ n.toNat := freeS_lt h (stepS_lt h S s)
theorem leadsN_lt {n k : Int} {arcs : List S27} {st f : Int} (h : GoodN n k arcs st f) : ∀ (w : List Int) {S : Nat}, S < 2 ^ n.toNat → leadsN arcs S w < 2 ^ n.toNat
  | [], S, hS => hS
  | s :: w, S, hS => leadsN_lt h w (stN_lt h S s)
theorem and_nat {S F : Nat} (hS : S < 4294967296) (hF : F < 4294967296) : Go.bits .and .u32 (S : Int) (F : Int) = ((S &&& F : Nat) : Int) := u32_and_nat _ _ hS hF
theorem net_run_l0 {n k : Int} {arcs : List S27} {st f : Int} (h : GoodN n k arcs st f) (f0 : 0 ≤ f) (w : List Int) (hw : w.length ≤ 12) : ∀ (d i : Nat) (S : Nat), i + d = w.length → S < 2 ^ n.toNat →
    Ev (fun q => net_Run.l0 q (S : Int) w (w.length : Int) (i : Int) n k arcs st f) ((leadsN arcs S (w.drop i) : Nat), decide (¬ (leadsN arcs S (w.drop i) &&& f.toNat) = 0), 0) := by
  have hp : 2 ^ n.toNat ≤ 128 := pow_le7 (by have := h.n7; omega)
  intro d
  induction d with
  | zero =>
    intro i S hi hS
    rw [List.drop_eq_nil_of_le (by omega)]
    obtain ⟨F, rfl⟩ := Int.eq_ofNat_of_zero_le f0
    have hF : F < 2 ^ n.toNat := by have := h.fin; rw [pow_cast] at this; exact Int.ofNat_lt.1 this
    refine Ev.step (fun q => by rw [net_Run.l0]) (Ev.neg (by omega) (Ev.val ?_))
    rw [and_nat (by omega) (by omega), Int.toNat_natCast]
    show some ((S : Int), (((S &&& F : Nat) : Int) != 0), (0 : Int)) = some ((S : Int), decide (¬ (S &&& F) = 0), 0)
    congr 3
    rw [Bool.eq_iff_iff]
    simp
  | succ d ih =>
    intro i S hi hS
    have hlt : i < w.length := by omega
    refine Ev.step (fun q => by rw [net_Run.l0]) ?_
    refine Ev.pos (by omega) ?_
    refine Ev.pos (by omega) ?_
    refine Ev.pos (by omega) ?_
    rw [rd_nat, w64 (n := (i : Int) + 1) (by omega) (by omega), drop_cons hlt 0]
    exact Ev.bind (net_step_good h hS _) (ih (i + 1) _ (by omega) (stN_lt h S _))
/-- The set that a word leads to. -/
def setN (arcs : List S27) (st : Int) (w : List Int) : Nat := leadsN arcs (freeS arcs st.toNat) w
theorem net_run_good {n k : Int} {arcs : List S27} {st f : Int} (h : GoodN n k arcs st f) (s0 : 0 ≤ st) (s1 : st < 4294967296) (f0 : 0 ≤ f) (f1 : f < 4294967296) (w : List Int) (hw : GoodW k w) :
    Ev (fun q => net_Run.f q n k arcs st f w) ((setN arcs st w : Nat), decide (¬ (setN arcs st w &&& f.toNat) = 0), 0) := by
  obtain ⟨e, he, hi⟩ := netcheck_spec (n := n) (k := k) (arcs := arcs) s0 s1 f0 f1
  obtain ⟨e2, he2, hi2⟩ := words_spec k w
  obtain ⟨ST, rfl⟩ := Int.eq_ofNat_of_zero_le s0
  have hS : ST < 2 ^ n.toNat := by have := h.st; rw [pow_cast] at this; exact Int.ofNat_lt.1 this
  have hr := net_run_l0 h f0 w hw.1 w.length 0 (freeS arcs ST) (by omega) (freeS_lt h hS)
  rw [List.drop_zero] at hr
  exact Ev.congr (fun q => by rw [net_Run.f]) (Ev.bind he (Ev.pos (hi.2 h) (Ev.bindc he2 (Ev.pos (hi2.2 hw) (Ev.bind (free_good h hS) hr)))))
theorem net_run_bad {n k : Int} {arcs : List S27} {st f : Int} (s0 : 0 ≤ st) (s1 : st < 4294967296) (f0 : 0 ≤ f) (f1 : f < 4294967296) (w : List Int) (hn : ¬ (GoodN n k arcs st f ∧ GoodW k w)) :
    ∃ e, e ≠ 0 ∧ Ev (fun q => net_Run.f q n k arcs st f w) (0, false, e) := by
  obtain ⟨e, he, hi⟩ := netcheck_spec (n := n) (k := k) (arcs := arcs) s0 s1 f0 f1
  obtain ⟨e2, he2, hi2⟩ := words_spec k w
  by_cases c : e = 0
  · have c2 : ¬ e2 = 0 := fun h => hn ⟨hi.1 c, hi2.1 h⟩
    exact ⟨e2, c2, Ev.congr (fun q => by rw [net_Run.f]) (Ev.bind he (Ev.pos c (Ev.bindc he2 (Ev.neg c2 (Ev.now _)))))⟩
  · exact ⟨e, c, Ev.congr (fun q => by rw [net_Run.f]) (Ev.bind he (Ev.neg c (Ev.now _)))⟩
end Go.Proofs.Ytiiankjmeodjdaa.PHM
