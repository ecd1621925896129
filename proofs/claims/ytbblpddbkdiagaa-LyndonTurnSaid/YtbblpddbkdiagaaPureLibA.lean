/- Plain facts on the printed functions power.large, power.has, power.Root, long and coppicerref.Bytes (group B). -/
import Derived.Test.YtbblpddbkdiagaaGA6
import Derived.Test.YtbblpddbkdiagaaGA10
import Derived.Test.YtbblpddbkdiagaaEv
namespace Go.Proofs.Ytbblpddbkdiagaa.PureL
set_option linter.unusedVariables false
set_option linter.unusedSimpArgs false
open Go.RowKit Go.Proofs.Ytbblpddbkdiagaa.GA Go.Proofs.YtbblpddbkdiagaaW.PrintWords Go.Proofs.YtbblpddbkdiagaaW.PrintLast

def isB (l : List Int) : Prop := ∀ x ∈ l, 0 ≤ x ∧ x ≤ 255
theorem isB_take {l : List Int} (h : isB l) (n : Nat) : isB (l.take n) := fun x hx => h x (List.mem_of_mem_take hx)
theorem isB_drop {l : List Int} (h : isB l) (n : Nat) : isB (l.drop n) := fun x hx => h x (List.mem_of_mem_drop hx)
theorem isB_wf {l : List Int} (h : ∀ y_ ∈ l, (Lit.int .u8 y_).wf = true) : isB l := fun x hx => wf_u8 (h x hx)
def any60 (xs : List (List Int)) : Bool := xs.any fun x => decide (60 < x.length)
theorem lar_loop (xs : List (List Int)) (hl : xs.length ≤ 100) : ∀ (d i : Nat), i + d = xs.length → Ev (fun k => power_large.l0 k xs (xs.length : Int) (i : Int)) (any60 (xs.drop i)) := by
  intro d
  induction d with
  | zero =>
    intro i hi
    refine Ev.step (fun k => by rw [power_large.l0]) (Ev.neg (by omega) (Ev.eq (Ev.now _) ?_))
    rw [List.drop_eq_nil_of_le (by omega)]; rfl
  | succ d ih =>
    intro i hi
    refine Ev.step (fun k => by rw [power_large.l0]) (Ev.pos (by omega) (Ev.pos (by omega) (Ev.pos (by omega) ?_)))
    have e : rd_L1 xs (i : Int) = xs[i]'(by omega) := by simp [rd_L1, List.getD_eq_getElem?_getD, List.getElem?_eq_getElem (by omega : i < xs.length)]
    rw [e, List.drop_eq_getElem_cons (by omega : i < xs.length), w64 (by omega) (by omega)]
    by_cases h : 60 < (xs[i]'(by omega)).length
    · exact Ev.pos (by omega) (Ev.eq (Ev.now _) (by simp only [any60, List.any_cons]; rw [decide_eq_true h, Bool.true_or]))
    · exact Ev.neg (by omega) (Ev.eq (ih (i + 1) (by omega)) (by simp only [any60, List.any_cons]; rw [decide_eq_false h, Bool.false_or]))
theorem lar_spec (xs : List (List Int)) (hl : xs.length ≤ 100) : Ev (fun k => power_large.f k xs) (any60 xs) := by
  unfold power_large.f
  exact lar_loop xs hl xs.length 0 (by omega)
theorem lon_loop (xs : List (List Int)) (hl : xs.length ≤ 100) : ∀ (d i : Nat), i + d = xs.length → Ev (fun k => coppicerkeep_long.l0 k xs (xs.length : Int) (i : Int)) (any60 (xs.drop i)) := by
  intro d
  induction d with
  | zero =>
    intro i hi
    refine Ev.step (fun k => by rw [coppicerkeep_long.l0]) (Ev.neg (by omega) (Ev.eq (Ev.now _) ?_))
    rw [List.drop_eq_nil_of_le (by omega)]; rfl
  | succ d ih =>
    intro i hi
    refine Ev.step (fun k => by rw [coppicerkeep_long.l0]) (Ev.pos (by omega) (Ev.pos (by omega) (Ev.pos (by omega) ?_)))
    have e : rd_L1 xs (i : Int) = xs[i]'(by omega) := by simp [rd_L1, List.getD_eq_getElem?_getD, List.getElem?_eq_getElem (by omega : i < xs.length)]
    rw [e, List.drop_eq_getElem_cons (by omega : i < xs.length), w64 (by omega) (by omega)]
    by_cases h : 60 < (xs[i]'(by omega)).length
    · exact Ev.pos (by omega) (Ev.eq (Ev.now _) (by simp only [any60, List.any_cons]; rw [decide_eq_true h, Bool.true_or]))
    · exact Ev.neg (by omega) (Ev.eq (ih (i + 1) (by omega)) (by simp only [any60, List.any_cons]; rw [decide_eq_false h, Bool.false_or]))
theorem lon_spec (xs : List (List Int)) (hl : xs.length ≤ 100) : Ev (fun k => coppicerkeep_long.f k xs) (any60 xs) := by
  unfold coppicerkeep_long.f
  exact lon_loop xs hl xs.length 0 (by omega)
/-- Is p a period? -/
def perB (l : List Int) (p : Int) : Bool := decide (1 ≤ p ∧ p ≤ l.length ∧ l.drop p.toNat = l.take (l.length - p.toNat))
theorem eqB_spec (a b : List Int) (ha : isB a) (hb : isB b) : bytes_Equal.f a b = some (decide (a = b)) := by unfold bytes_Equal.f; rw [chars_eq ha hb]
theorem has_spec (l : List Int) (hl : l.length ≤ 60) (hb : isB l) (p : Int) : power_has.f l p = some (perB l p) := by
  unfold power_has.f perB
  by_cases h1 : p ≥ 1
  · rw [if_pos h1]
    by_cases h2 : p ≤ (l.length : Int)
    · rw [if_pos h2, if_pos (by omega), w64 (by omega) (by omega), if_pos (by omega), if_pos (by omega), eqB_spec _ _ (isB_drop hb _) (isB_take hb _), Option.bind_some,
        show ((l.length : Int) - p).toNat = l.length - p.toNat by omega]
      simp only [Option.some.injEq, decide_eq_decide]
      exact ⟨fun h => ⟨by omega, by omega, h⟩, fun h => h.2.2⟩
    · rw [if_neg h2]; simp only [Option.some.injEq]; symm; rw [decide_eq_false_iff_not]; omega
  · rw [if_neg h1]; simp only [Option.some.injEq]; symm; rw [decide_eq_false_iff_not]; omega
/-- A period, place by place. -/
theorem perB_iff (l : List Int) (p : Nat) (h1 : 1 ≤ p) (h2 : p ≤ l.length) : perB l (p : Int) = true ↔ ∀ i, i + p < l.length → l.getD i 0 = l.getD (i + p) 0 := by
  unfold perB
  rw [decide_eq_true_iff]
  constructor
  · rintro ⟨_, _, h⟩ i hi
    have := congrArg (fun x => x.getD i 0) h
    simp only [Int.toNat_natCast, List.getD_eq_getElem?_getD, List.getElem?_drop, List.getElem?_take] at this
    rw [if_pos (by omega)] at this
    simp only [List.getD_eq_getElem?_getD]
    rw [← this, Nat.add_comm]
  · intro h
    refine ⟨by omega, by omega, List.ext_getElem (by simp <;> omega) fun i h3 h4 => ?_⟩
    simp only [Int.toNat_natCast] at h3 h4 ⊢
    have h5 : i + p < l.length := by simp at h3; omega
    have := h i h5
    simp only [List.getD_eq_getElem?_getD, List.getElem?_eq_getElem h5, List.getElem?_eq_getElem (show i < l.length by omega), Option.getD_some] at this
    simp only [List.getElem_drop, List.getElem_take]
    rw [this]
    congr 1; omega
def fw_per (a : Nat → Int) (n p : Nat) : Prop := ∀ i, i + p < n → a i = a (i + p)
theorem fw_mul {a : Nat → Int} {n p : Nat} (h : fw_per a n p) : ∀ (t i : Nat), i + t * p < n → a i = a (i + t * p)
  | 0, i, _ => by simp
  | t + 1, i, hi => by
    have e : i + (t + 1) * p = i + t * p + p := by rw [Nat.add_mul]; omega
    rw [e] at hi ⊢
    rw [fw_mul h t i (by omega), h _ hi]
theorem fw_mod {a : Nat → Int} {n p : Nat} (h : fw_per a n p) (i : Nat) (hi : i < n) : a i = a (i % p) := by
  have e := Nat.mod_add_div i p
  have := fw_mul h (i / p) (i % p) (by rw [Nat.mul_comm]; omega)
  rw [this, Nat.mul_comm, e]
/-- g divides p, p is a period, and g is one of the first p letters: g is a period. -/
theorem fw_wide {a : Nat → Int} {n m p g : Nat} (hg : 0 < g) (hp0 : 0 < p) (hp : fw_per a n p) (hgm : fw_per a m g) (hm : p ≤ m) (hd : g ∣ p) : fw_per a n g := by
  obtain ⟨t, rfl⟩ := hd
  intro i hi
  rw [fw_mod hp i (by omega), fw_mod hp (i + g) hi]
  have e : a (i % (g * t)) = a (i % (g * t) % g) := fw_mod hgm _ (Nat.lt_of_lt_of_le (Nat.mod_lt _ hp0) hm)
  have e2 : a ((i + g) % (g * t)) = a ((i + g) % (g * t) % g) := fw_mod hgm _ (Nat.lt_of_lt_of_le (Nat.mod_lt _ hp0) hm)
  rw [e, e2, Nat.mod_mul_right_mod, Nat.mod_mul_right_mod, Nat.add_mod_right]
theorem fw_main : ∀ (s p q n : Nat) (a : Nat → Int), p + q ≤ s → 0 < p → 0 < q → fw_per a n p → fw_per a n q → p + q ≤ n + Nat.gcd p q → fw_per a n (Nat.gcd p q) := by
  intro s
  induction s with
  | zero => intro p q n a h h1; omega
  | succ s ih =>
    have key : ∀ p q n (a : Nat → Int), p + q ≤ s + 1 → 0 < p → 0 < q → fw_per a n p → fw_per a n q → p + q ≤ n + Nat.gcd p q → p < q → fw_per a n (Nat.gcd p q) := by
      intro p q n a hs hp hq hpp hqq hn hlt
      have eg : Nat.gcd p (q - p) = Nat.gcd p q := by
        rw [Nat.gcd_sub_self_right (by omega)]
      have hgp : Nat.gcd p q ≤ p := Nat.le_of_dvd hp (Nat.gcd_dvd_left p q)
      have hgd : Nat.gcd p q ≤ q - p := by rw [← eg]; exact Nat.le_of_dvd (by omega) (Nat.gcd_dvd_right p (q - p))
      have h1 := ih p (q - p) (n - p) a (by omega) hp (by omega) (fun i hi => hpp i (by omega)) (fun i hi => by
        have x := hqq i (by omega)
        have y := hpp (i + (q - p)) (by omega)
        rw [show i + (q - p) + p = i + q by omega] at y
        rw [x, y]) (by rw [eg]; omega)
      rw [eg] at h1
      exact fw_wide (Nat.gcd_pos_of_pos_left _ hp) hp hpp h1 (by omega) (Nat.gcd_dvd_left p q)
    intro p q n a hs hp hq hpp hqq hn
    rcases Nat.lt_trichotomy p q with h | h | h
    · exact key p q n a hs hp hq hpp hqq hn h
    · subst h; rw [Nat.gcd_self]; exact hpp
    · rw [Nat.gcd_comm]; exact key q p n a (by omega) hq hp hqq hpp (by rw [Nat.gcd_comm]; omega) h
theorem perB_range {l : List Int} {p : Int} (h : perB l p = true) : 1 ≤ p ∧ p ≤ l.length := by
  unfold perB at h
  rw [decide_eq_true_iff] at h
  exact ⟨h.1, h.2.1⟩
theorem fine_wilf (l : List Int) (p q : Nat) (hp : perB l p = true) (hq : perB l q = true) (h : p + q ≤ l.length + Nat.gcd p q) : perB l (Nat.gcd p q : Nat) = true := by
  have rp := perB_range hp
  have rq := perB_range hq
  have hg : 0 < Nat.gcd p q := Nat.gcd_pos_of_pos_left _ (by omega)
  have hgp : Nat.gcd p q ≤ p := Nat.le_of_dvd (by omega) (Nat.gcd_dvd_left p q)
  rw [perB_iff l _ (by omega) (by omega)] at hp hq ⊢
  exact fw_main (p + q) p q l.length (fun i => l.getD i 0) (Nat.le_refl _) (by omega) (by omega) hp hq h

theorem by_loop (a b : List Int) (hl : a.length = b.length) (hm : a.length ≤ 140737488355328) : ∀ (d i : Nat), i + d = a.length → Ev (fun k => coppicerref_Bytes.l0 k a b (i : Int)) (decide (a.drop i = b.drop i)) := by
  intro d
  induction d with
  | zero =>
    intro i hi
    refine Ev.step (fun k => by rw [coppicerref_Bytes.l0]) ?_
    refine Ev.neg (by omega) (Ev.eq (Ev.now true) ?_)
    rw [List.drop_eq_nil_of_le (by omega), List.drop_eq_nil_of_le (by omega)]; simp
  | succ d ih =>
    intro i hi
    refine Ev.step (fun k => by rw [coppicerref_Bytes.l0]) ?_
    refine Ev.pos (by omega) (Ev.pos (by omega) (Ev.pos (by omega) ?_))
    have ha : a[i]'(by omega) = a.getD i 0 := by simp [List.getD_eq_getElem?_getD, List.getElem?_eq_getElem (by omega : i < a.length)]
    have hb : b[i]'(by omega) = b.getD i 0 := by simp [List.getD_eq_getElem?_getD, List.getElem?_eq_getElem (by omega : i < b.length)]
    rw [List.drop_eq_getElem_cons (by omega : i < a.length), List.drop_eq_getElem_cons (by omega : i < b.length), ha, hb, rd_nat, rd_nat, w64 (by omega) (by omega)]
    by_cases h : a.getD i 0 = b.getD i 0
    · refine Ev.pos h (Ev.eq (ih (i + 1) (by omega)) ?_)
      rw [h]; simp
    · refine Ev.neg h (Ev.eq (Ev.now false) ?_)
      simp only [List.cons.injEq, h, false_and, decide_false]
theorem by_spec (a b : List Int) (hm : a.length ≤ 140737488355328) : Ev (fun k => coppicerref_Bytes.f k a b) (decide (a = b)) := by
  unfold coppicerref_Bytes.f
  by_cases h : a.length = b.length
  · refine Ev.pos (by omega) (Ev.eq (by_loop a b h hm a.length 0 (by omega)) (by simp))
  · refine Ev.neg (by omega) (Ev.eq (Ev.now false) ?_)
    have : a ≠ b := fun e => h (by rw [e])
    simp [this]

/-- The length of the root: the least period that divides the length. -/
def rootLen (l : List Int) (p : Nat) : Prop := 1 ≤ p ∧ p ∣ l.length ∧ perB l p = true ∧ ∀ q : Nat, 1 ≤ q → q ∣ l.length → perB l q = true → p ≤ q
theorem perB_all (l : List Int) (h : 0 < l.length) : perB l (l.length : Int) = true := by
  unfold perB
  rw [decide_eq_true_iff]
  exact ⟨by omega, by omega, by simp⟩
theorem clone_spec (l : List Int) (h : l.length ≤ 1000) : bytes_Clone.f l = some l := by
  unfold bytes_Clone.f; rw [if_pos (by omega)]
theorem wdiv (n x : Nat) (h : n ≤ 60) : wrap64 ((n : Int) / (x : Int)) = ((n / x : Nat) : Int) := by
  rw [← Int.natCast_ediv]
  have := Nat.div_le_self n x
  generalize n / x = q at *
  exact w64 (by omega) (by omega)
theorem root_loop (l : List Int) (hl : l.length ≤ 60) (hb : isB l) (h0 : 0 < l.length) : ∀ (d x : Nat), 1 ≤ x → x + d = l.length → (∀ q : Nat, 1 ≤ q → q ∣ l.length → perB l q = true → x ≤ q) →
    ∃ p, rootLen l p ∧ Ev (fun k => power_Root.l0 k l (x : Int)) (l.take p, ((l.length / p : Nat) : Int), 0) := by
  intro d
  induction d with
  | zero =>
    intro x hx hd hm
    have e : x = l.length := by omega
    subst e
    refine ⟨l.length, ⟨hx, Nat.dvd_refl _, perB_all l h0, hm⟩, ?_⟩
    refine Ev.step (fun k => by rw [power_Root.l0]) (Ev.pos (by omega) (Ev.neg (by omega) (Ev.pos (by simp) (Ev.bindc (has_spec l hl hb _) ?_))))
    refine Ev.pos (perB_all l h0) (Ev.pos (by omega) ?_)
    refine Ev.bindc (clone_spec _ (by rw [List.length_take]; omega)) (Ev.eq (Ev.now _) ?_)
    rw [wdiv _ _ hl, Int.toNat_natCast]
  | succ d ih =>
    intro x hx hd hm
    by_cases hdv : x ∣ l.length
    · have hmod : ((l.length : Int) % (x : Int)) = 0 := by
        rw [← Int.natCast_emod, Nat.mod_eq_zero_of_dvd hdv]; rfl
      by_cases hp : perB l (x : Int) = true
      · refine ⟨x, ⟨hx, hdv, hp, hm⟩, ?_⟩
        refine Ev.step (fun k => by rw [power_Root.l0]) (Ev.pos (by omega) (Ev.neg (by omega) (Ev.pos hmod (Ev.bindc (has_spec l hl hb _) ?_))))
        refine Ev.pos hp (Ev.pos (by omega) ?_)
        refine Ev.bindc (clone_spec _ (by rw [List.length_take]; omega)) (Ev.eq (Ev.now _) ?_)
        rw [wdiv _ _ hl, Int.toNat_natCast]
      · obtain ⟨p, hp1, hp2⟩ := ih (x + 1) (by omega) (by omega) (fun q h1 h2 h3 => by
          have := hm q h1 h2 h3
          rcases Nat.lt_or_ge x q with h | h
          · omega
          · have : q = x := by omega
            subst this; exact absurd h3 hp)
        refine ⟨p, hp1, ?_⟩
        refine Ev.step (fun k => by rw [power_Root.l0]) (Ev.pos (by omega) (Ev.neg (by omega) (Ev.pos hmod (Ev.bindc (has_spec l hl hb _) (Ev.neg hp ?_)))))
        rw [w64 (by omega) (by omega)]
        exact hp2
    · have hmod : ¬ ((l.length : Int) % (x : Int)) = 0 := by
        rw [← Int.natCast_emod]
        intro h
        exact hdv (Nat.dvd_of_mod_eq_zero (by omega))
      obtain ⟨p, hp1, hp2⟩ := ih (x + 1) (by omega) (by omega) (fun q h1 h2 h3 => by
          have := hm q h1 h2 h3
          rcases Nat.lt_or_ge x q with h | h
          · omega
          · have : q = x := by omega
            subst this; exact absurd h2 hdv)
      refine ⟨p, hp1, ?_⟩
      refine Ev.step (fun k => by rw [power_Root.l0]) (Ev.pos (by omega) (Ev.neg (by omega) (Ev.neg hmod ?_)))
      rw [w64 (by omega) (by omega)]
      exact hp2
theorem root_spec (l : List Int) (hl : l.length ≤ 60) (hb : isB l) (h0 : 0 < l.length) : ∃ p, rootLen l p ∧ Ev (fun k => power_Root.f k l) (l.take p, ((l.length / p : Nat) : Int), 0) := by
  obtain ⟨p, h1, h2⟩ := root_loop l hl hb h0 (l.length - 1) 1 (by omega) (by omega) (fun q h _ _ => h)
  refine ⟨p, h1, ?_⟩
  unfold power_Root.f
  exact Ev.bind (lar_spec _ (by simp)) (Ev.neg (by simp [any60]; omega) h2)
theorem root_nil : Ev (fun k => power_Root.f k []) ([], 0, 0) := by
  unfold power_Root.f
  refine Ev.bind (lar_spec _ (by simp)) (Ev.neg (by simp [any60]) ?_)
  exact Ev.step (fun k => by rw [power_Root.l0]) (Ev.neg (by simp) (Ev.now _))
theorem root_long (l : List Int) (h : 60 < l.length) : Ev (fun k => power_Root.f k l) ([], 0, 1) := by
  unfold power_Root.f
  exact Ev.bind (lar_spec _ (by simp)) (Ev.pos (by simp [any60]; omega) (Ev.now _))
theorem rootLen_one (l : List Int) {p q : Nat} (h1 : rootLen l p) (h2 : rootLen l q) : p = q :=
  Nat.le_antisymm (h1.2.2.2 q h2.1 h2.2.1 h2.2.2.1) (h2.2.2.2 p h1.1 h1.2.1 h1.2.2.1)
theorem rootLen_le {l : List Int} {p : Nat} (h : rootLen l p) (h0 : 0 < l.length) : p ≤ l.length := Nat.le_of_dvd h0 h.2.1
theorem rootLen_per {l : List Int} {p : Nat} (h : rootLen l p) (h0 : 0 < l.length) : fw_per (fun i => l.getD i 0) l.length p := by
  have := h.2.2.1
  rw [perB_iff l p h.1 (rootLen_le h h0)] at this
  exact this
/-- The root's root is the root. -/
theorem rootLen_take (l : List Int) {p : Nat} (h0 : 0 < l.length) (h : rootLen l p) : rootLen (l.take p) p := by
  have hle := rootLen_le h h0
  have hlen : (l.take p).length = p := by simp; omega
  have hp1 := h.1
  refine ⟨h.1, by rw [hlen]; exact Nat.dvd_refl p, ?_, fun q hq1 hq2 hq3 => ?_⟩
  · have := perB_all (l.take p) (by omega)
    rwa [hlen] at this
  · rw [hlen] at hq2
    have hqp : q ≤ p := Nat.le_of_dvd (by omega) hq2
    rw [perB_iff _ q hq1 (by omega)] at hq3
    have hw := rootLen_per h h0
    have hq : fw_per (fun i => l.getD i 0) p q := by
      intro i hi
      have := hq3 i (by omega)
      simp only [List.getD_eq_getElem?_getD, List.getElem?_take] at this ⊢
      rwa [if_pos (by omega), if_pos (by omega)] at this
    refine h.2.2.2 q hq1 (Nat.dvd_trans hq2 h.2.1) ((perB_iff l q hq1 (by omega)).2 ?_)
    exact fw_wide (by omega) (by omega) hw hq (Nat.le_refl p) hq2
/-- So often the root makes the word. -/
theorem root_step (l : List Int) {p : Nat} (h0 : 0 < l.length) (h : rootLen l p) (i : Nat) (hi : (i + 1) * p ≤ l.length) : l.take (i * p) ++ l.take p = l.take ((i + 1) * p) := by
  have hle := rootLen_le h h0
  have hw := rootLen_per h h0
  have e : (i + 1) * p = i * p + p := by rw [Nat.add_mul]; omega
  rw [e] at hi ⊢
  rw [List.take_add]
  congr 1
  refine List.ext_getElem (by simp; omega) fun j h1 h2 => ?_
  have hj : j < p := by simp at h1; omega
  have := fw_mul hw i j (by omega)
  simp only [List.getD_eq_getElem?_getD, List.getElem?_eq_getElem (show j < l.length by omega), List.getElem?_eq_getElem (show j + i * p < l.length by omega), Option.getD_some] at this
  simp only [List.getElem_take, List.getElem_drop]
  rw [this]
  congr 1; omega
end Go.Proofs.Ytbblpddbkdiagaa.PureL
