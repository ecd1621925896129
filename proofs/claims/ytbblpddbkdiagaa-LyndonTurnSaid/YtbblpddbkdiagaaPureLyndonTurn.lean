/- The law LyndonTurn, as plain Lean: the least of all turns is the same for a turned word, and low just if the word is its own root. Conditions: none beyond the kinds of the arguments. -/
import Derived.Test.YtbblpddbkdiagaaPureLow
import Derived.Test.YtbblpddbkdiagaaGA6
namespace Go.Proofs.Ytbblpddbkdiagaa.Pure
set_option linter.unusedVariables false
set_option linter.unusedSimpArgs false
open Go.RowKit Go.Proofs.Ytbblpddbkdiagaa.GA Go.Proofs.Ytbblpddbkdiagaa.PureL Go.Proofs.YtbblpddbkdiagaaW.PrintWords Go.Proofs.YtbblpddbkdiagaaW.PrintLast

def rot (l : List Int) (j : Nat) : List Int := l.drop j ++ l.take j
theorem rot_len (l : List Int) (j : Nat) : (rot l j).length = l.length := by simp [rot]; omega
theorem rot_getD (l : List Int) (j i : Nat) (hj : j ≤ l.length) (hi : i < l.length) : (rot l j).getD i 0 = l.getD ((i + j) % l.length) 0 := by
  unfold rot
  simp only [List.getD_eq_getElem?_getD]
  rcases Nat.lt_or_ge (i + j) l.length with c | c
  · rw [List.getElem?_append_left (by simp; omega), List.getElem?_drop, Nat.mod_eq_of_lt c, Nat.add_comm]
  · have e : (i + j) % l.length = i + j - l.length := by
      rw [Nat.mod_eq_sub_mod c, Nat.mod_eq_of_lt (by omega)]
    rw [List.getElem?_append_right (by simp; omega), List.getElem?_take, if_pos (by simp; omega), e]
    congr 2
    simp; omega
theorem list_ext_getD {a b : List Int} (hl : a.length = b.length) (h : ∀ i, i < a.length → a.getD i 0 = b.getD i 0) : a = b := by
  refine List.ext_getElem hl fun i h1 h2 => ?_
  have := h i h1
  simpa only [List.getD_eq_getElem?_getD, List.getElem?_eq_getElem h1, List.getElem?_eq_getElem h2, Option.getD_some] using this
theorem rot_rot (l : List Int) (j k : Nat) (hj : j ≤ l.length) (hk : k ≤ l.length) (h0 : 0 < l.length) : rot (rot l k) j = rot l ((j + k) % l.length) := by
  have hm := Nat.mod_lt (j + k) h0
  refine list_ext_getD (by simp [rot_len]) fun i hi => ?_
  rw [rot_len, rot_len] at hi
  rw [rot_getD _ _ _ (by rw [rot_len]; exact hj) (by rw [rot_len]; exact hi), rot_len, rot_getD _ _ _ hk (Nat.mod_lt _ h0), rot_getD _ _ _ (by omega) hi]
  congr 1
  rw [Nat.mod_add_mod, Nat.add_mod_mod, Nat.add_assoc]
theorem rot_zero (l : List Int) : rot l 0 = l := by simp [rot]
/-- A turn keeps a period that divides the length. -/
theorem rot_per {l : List Int} {p j : Nat} (hp : 0 < p) (hd : p ∣ l.length) (hj : j ≤ l.length) (h : fw_per (fun i => l.getD i 0) l.length p) : fw_per (fun i => (rot l j).getD i 0) l.length p := by
  intro i hi
  have h0 : 0 < l.length := by omega
  show (rot l j).getD i 0 = (rot l j).getD (i + p) 0
  rw [rot_getD _ _ _ hj (by omega), rot_getD _ _ _ hj hi]
  have a1 := fw_mod h ((i + j) % l.length) (Nat.mod_lt _ h0)
  have a2 := fw_mod h ((i + p + j) % l.length) (Nat.mod_lt _ h0)
  rw [a1, a2, Nat.mod_mod_of_dvd _ hd, Nat.mod_mod_of_dvd _ hd, show i + p + j = i + j + p by omega, Nat.add_mod_right]
/-- What lyndon.Turn looks for: no turn is less. -/
def least (l : List Int) (b : Nat) : Prop := ∀ j, j < l.length → ¬ rot l j < rot l b
theorem cut_twice (l : List Int) (i : Nat) (hi : i ≤ l.length) : ((l ++ l).take (i + l.length)).drop i = rot l i := by
  rw [List.take_append, List.take_of_length_le (by omega : l.length ≤ i + l.length), Nat.add_sub_cancel, List.drop_append_of_le_length hi]
  rfl
theorem turn_loop (l : List Int) (hl : l.length ≤ 60) (hb : isB l) : ∀ (d i b : Nat), i + d = l.length → b ≤ i → (b < l.length ∨ l.length = 0) → (∀ j, j < i → ¬ rot l j < rot l b) →
    ∃ b' : Nat, (b' < l.length ∨ l.length = 0) ∧ (l.length = 0 → b' = b) ∧ least l b' ∧ Ev (fun k => lyndon_Turn.l0 k l (b : Int) (l ++ l) (l.length : Int) (i : Int)) ((b' : Int), 0) := by
  intro d
  induction d with
  | zero =>
    intro i b hi hbi hbl h
    refine ⟨b, hbl, fun _ => rfl, fun j hj => h j (by omega), Ev.step (fun k => by rw [lyndon_Turn.l0]) (Ev.neg (by omega) (Ev.now _))⟩
  | succ d ih =>
    intro i b hi hbi hbl h
    have hbl' : b < l.length := by omega
    have e1 : wrap64 ((i : Int) + (l.length : Int)) = ((i + l.length : Nat) : Int) := by rw [w64 (by omega) (by omega)]; omega
    have e2 : wrap64 ((b : Int) + (l.length : Int)) = ((b + l.length : Nat) : Int) := by rw [w64 (by omega) (by omega)]; omega
    have hr : ∀ j, isB (rot l j) := fun j x hx => by
      unfold rot at hx
      rcases List.mem_append.1 hx with hx | hx
      · exact isB_drop hb j x hx
      · exact isB_take hb j x hx
    obtain ⟨c, ec, hc⟩ := compare_spec (hr i) (hr b)
    have step : ∀ b2 : Nat, (c < 0 → b2 = i) → (¬ c < 0 → b2 = b) → ∀ r, Ev (fun k => lyndon_Turn.l0 k l (b2 : Int) (l ++ l) (l.length : Int) ((i + 1 : Nat) : Int)) r → Ev (fun k => lyndon_Turn.l0 k l (b : Int) (l ++ l) (l.length : Int) (i : Int)) r := by
      intro b2 h1 h2 r hr2
      refine Ev.step (fun k => by rw [lyndon_Turn.l0]) (Ev.pos (by omega) (Ev.pos (by omega) ?_))
      rw [e1, e2]
      refine Ev.pos (by omega) (Ev.pos (by simp; omega) (Ev.pos (by omega) (Ev.pos (by omega) (Ev.pos (by simp; omega) ?_))))
      rw [Int.toNat_natCast, Int.toNat_natCast, Int.toNat_natCast, Int.toNat_natCast, cut_twice l i (by omega), cut_twice l b (by omega), w64 (n := (i : Int) + 1) (by omega) (by omega)]
      refine Ev.bindc ec ?_
      by_cases hc0 : c < 0
      · refine Ev.pos hc0 ?_
        rw [h1 hc0] at hr2
        exact hr2
      · refine Ev.neg hc0 ?_
        rw [h2 hc0] at hr2
        exact hr2
    by_cases hc0 : c < 0
    · obtain ⟨b', g1, g2, g3, g4⟩ := ih (i + 1) i (by omega) (by omega) (by omega) (fun j hj hlt => by
        rcases Nat.lt_or_ge j i with cc | cc
        · exact h j cc (ll_trans hlt (hc.1 hc0))
        · obtain rfl : j = i := by omega
          exact ll_irrefl _ hlt)
      exact ⟨b', g1, fun h0 => by omega, g3, step i (fun _ => rfl) (fun x => absurd hc0 x) _ g4⟩
    · obtain ⟨b', g1, g2, g3, g4⟩ := ih (i + 1) b (by omega) (by omega) (by omega) (fun j hj hlt => by
        rcases Nat.lt_or_ge j i with cc | cc
        · exact h j cc hlt
        · obtain rfl : j = i := by omega
          exact hc0 (hc.2 hlt))
      exact ⟨b', g1, fun h0 => by omega, g3, step b (fun x => absurd x hc0) (fun _ => rfl) _ g4⟩
theorem turn_spec (l : List Int) (hl : l.length ≤ 60) (hb : isB l) : ∃ b : Nat, (b < l.length ∨ l.length = 0) ∧ (l.length = 0 → b = 0) ∧ least l b ∧ Ev (fun k => lyndon_Turn.f k l) ((b : Int), 0) := by
  obtain ⟨b, h1, h2, h3, h4⟩ := turn_loop l hl hb l.length 0 0 (by omega) (by omega) (by omega) (fun j hj => by omega)
  refine ⟨b, h1, h2, h3, ?_⟩
  unfold lyndon_Turn.f
  exact Ev.neg (by omega) (Ev.bindc (clone_spec l (by omega)) (Ev.pos (by omega) h4))
theorem least_same {l : List Int} {k b m : Nat} (h0 : 0 < l.length) (hk : k < l.length) (hb : b < l.length) (hm : m < l.length) (h1 : least l b) (h2 : least (rot l k) m) : rot (rot l k) m = rot l b := by
  have e := rot_rot l m k (by omega) (by omega) h0
  have a1 := h1 ((m + k) % l.length) (Nat.mod_lt _ h0)
  rw [← e] at a1
  have a2 := h2 ((b + (l.length - k)) % l.length) (by rw [rot_len]; exact Nat.mod_lt _ h0)
  have e2 : rot (rot l k) ((b + (l.length - k)) % l.length) = rot l b := by
    rw [rot_rot l _ k (Nat.le_of_lt (Nat.mod_lt _ h0)) (by omega) h0, Nat.mod_add_mod, show b + (l.length - k) + k = b + l.length by omega, Nat.add_mod_right, Nat.mod_eq_of_lt hb]
  rw [e2] at a2
  rcases ll_tri (rot (rot l k) m) (rot l b) with c | c | c
  · exact absurd c a1
  · exact c
  · exact absurd c a2
theorem pc_per (u v : List Int) (h : u ++ v = v ++ u) : fw_per (fun i => (u ++ v).getD i 0) (u ++ v).length u.length := by
  intro i hi
  simp only [List.length_append] at hi
  have e : (u ++ v).getD (i + u.length) 0 = v.getD i 0 := by
    simp only [List.getD_eq_getElem?_getD]
    rw [List.getElem?_append_right (by omega)]; simp
  have e2 : (u ++ v).getD i 0 = v.getD i 0 := by
    rw [h]
    simp only [List.getD_eq_getElem?_getD]
    rw [List.getElem?_append_left (by omega)]
  simp only; rw [e, e2]
/-- The least turn of a word that is its own root is low. -/
theorem least_low {l : List Int} {b p : Nat} (h0 : 0 < l.length) (hb : b < l.length) (h : least l b) (hp : rootLen l p) (hpl : p = l.length) : Lyn (rot l b) := by
  have hlen := rot_len l b
  have hrb : ∀ j, j < l.length → ¬ rot (rot l b) j < rot l b := fun j hj => by
    rw [rot_rot l j b (by omega) (by omega) h0]
    exact h _ (Nat.mod_lt _ h0)
  have hback : rot (rot l b) ((l.length - b) % l.length) = l := by
    rw [rot_rot l _ b (Nat.le_of_lt (Nat.mod_lt _ h0)) (by omega) h0, Nat.mod_add_mod, show l.length - b + b = l.length by omega, Nat.mod_self, rot_zero]
  have hbl : (l.length - b) % l.length < l.length := Nat.mod_lt _ h0
  generalize (l.length - b) % l.length = bk at *
  generalize rot l b = B at *
  refine ⟨by omega, fun i h1 h2 => ?_⟩
  rw [hlen] at h2
  have hmin := hrb i h2
  have hspl : B = B.take i ++ B.drop i := (List.take_append_drop i _).symm
  have hyl : (B.take i).length = i := by rw [List.length_take, hlen]; omega
  have hsl : (B.drop i).length = l.length - i := by rw [List.length_drop, hlen]
  unfold rot at hmin
  rcases ll_tri B (B.drop i) with c | c | c
  · exact c
  · have := congrArg List.length c
    omega
  · exfalso
    rcases ll_cases c with ⟨z, hz, e⟩ | c2
    · -- the end begins the word: both parts commute
      have hzl : z.length = i := by
        have := congrArg List.length e
        rw [List.length_append, hsl, hlen] at this
        omega
      have hmin2 := hrb (l.length - i) (by omega)
      have hrot2 : rot B (l.length - i) = z ++ B.drop i := by
        unfold rot
        have e2 : B.take (l.length - i) = B.drop i := by
          have e3 : (B.drop i ++ z).take (l.length - i) = B.drop i := List.take_left' hsl
          rwa [← e] at e3
        have e4 : B.drop (l.length - i) = z := by
          have e3 : (B.drop i ++ z).drop (l.length - i) = z := List.drop_left' hsl
          rwa [← e] at e3
        rw [e2, e4]
      rw [hrot2] at hmin2
      generalize B.drop i = s at *
      generalize B.take i = y at *
      have hn1 : ¬ y < z := fun x => hmin (by
        have := (ll_app s y z).2 x
        rwa [← e] at this)
      have hn2 : ¬ z < y := fun x => hmin2 (by
        have := ll_mis s s x (by omega)
        rwa [← hspl] at this)
      have hyz : y = z := by
        rcases ll_tri y z with c | c | c
        · exact absurd c hn1
        · exact c
        · exact absurd c hn2
      subst hyz
      have hcm : y ++ s = s ++ y := by rw [← hspl, ← e]
      have q1 := pc_per y s hcm
      have q2 := pc_per s y hcm.symm
      rw [← hcm] at q2
      rw [← hspl] at q1 q2
      have hg0 : 0 < Nat.gcd y.length s.length := Nat.gcd_pos_of_pos_left _ (by omega)
      have hgy : Nat.gcd y.length s.length ≤ y.length := Nat.le_of_dvd (by omega) (Nat.gcd_dvd_left _ _)
      have hgd : Nat.gcd y.length s.length ∣ l.length := by
        have e5 : l.length = y.length + s.length := by omega
        rw [e5]
        exact Nat.dvd_add (Nat.gcd_dvd_left _ _) (Nat.gcd_dvd_right _ _)
      have q3 := fw_main (y.length + s.length) y.length s.length B.length _ (Nat.le_refl _) (by omega) (by omega) q1 q2 (by omega)
      have q4 := rot_per (l := B) (j := bk) hg0 (by rw [hlen]; exact hgd) (by omega) q3
      rw [hback, hlen] at q4
      have := hp.2.2.2 _ hg0 hgd ((perB_iff l _ hg0 (by omega)).2 q4)
      omega
    · have := c2 (B.take i) []
      rw [List.append_nil] at this
      exact hmin this
theorem low_root {l : List Int} {b p : Nat} (h0 : 0 < l.length) (hb : b < l.length) (hp : rootLen l p) (h : Lyn (rot l b)) : p = l.length := by
  have h1 := hp.1
  have h2 := rootLen_le hp h0
  have q := rot_per (j := b) h1 hp.2.1 (by omega) (rootLen_per hp h0)
  have hbd : bd (rot l b) (l.length - p) (rot l b).length := by
    rw [rot_len]
    refine ⟨by omega, fun s hs => ?_⟩
    have := q s (by omega)
    simp only at this
    rw [this]
    congr 1; omega
  have := lyn_noborder h hbd
  omega
theorem LyndonTurn : coppicerkeep_LyndonTurn.Pure := by
  intro l a ⟨_, _, wl⟩ wa
  have bl := isB_wf wl
  have wa := wf_u8 wa
  refine Ev.rounds ?_
  unfold coppicerkeep_LyndonTurn.f
  by_cases h : 60 < l.length
  · have ht : Ev (fun k => lyndon_Turn.f k l) (0, 1) := by
      unfold lyndon_Turn.f
      exact Ev.pos (by omega) (Ev.now _)
    exact Ev.bind ht (Ev.bind (lon_spec _ (by simp)) (Ev.pos (by simp [any60]; omega) (Ev.now _)))
  · obtain ⟨b, b1, b2, b3, b4⟩ := turn_spec l (by omega) bl
    refine Ev.bind b4 (Ev.bind (lon_spec _ (by simp)) (Ev.neg (by simp [any60]; omega) ?_))
    rcases Nat.eq_zero_or_pos l.length with h0 | h0
    · have := b2 h0
      subst this
      exact Ev.pos (by omega) (Ev.pos rfl (Ev.now _))
    · refine Ev.neg (by omega) ?_
      have hb : b < l.length := by omega
      obtain ⟨t, rfl⟩ : ∃ t : Nat, a = t := ⟨a.toNat, by omega⟩
      have hk : t % l.length < l.length := Nat.mod_lt _ h0
      rw [w64 (by omega) (by omega), tm (by omega), ← Int.natCast_emod]
      generalize t % l.length = k at *
      refine Ev.bindc (turned_spec l k (by omega) (by omega)) ?_
      have hx : l.drop k ++ l.take k = rot l k := rfl
      rw [hx]
      have hxl := rot_len l k
      have bx : isB (rot l k) := fun x hx => by
        unfold rot at hx
        rcases List.mem_append.1 hx with hx | hx
        · exact isB_drop bl k x hx
        · exact isB_take bl k x hx
      obtain ⟨m, m1, m2, m3, m4⟩ := turn_spec (rot l k) (by omega) bx
      have hm : m < l.length := by omega
      refine Ev.bind m4 (Ev.pos rfl (Ev.pos rfl (Ev.neg (by simp only; omega) (Ev.neg (by simp only; omega) (Ev.neg (by simp only; omega) ?_)))))
      dsimp only
      rw [show decide ((m : Int) ≥ (l.length : Int)) = false by rw [decide_eq_false_iff_not]; omega]
      refine Ev.step (fun k => by rw [coppicerkeep_LyndonTurn.j0]) (Ev.neg (by decide) ?_)
      refine Ev.bindc (turned_spec l b (by omega) (by omega)) ?_
      have hxb : l.drop b ++ l.take b = rot l b := rfl
      rw [hxb]
      have hbl := rot_len l b
      have bb : isB (rot l b) := fun x hx => by
        unfold rot at hx
        rcases List.mem_append.1 hx with hx | hx
        · exact isB_drop bl b x hx
        · exact isB_take bl b x hx
      obtain ⟨p, hp, hr⟩ := root_spec l (by omega) bl h0
      have his := is_spec (rot l b) bb
      rw [if_neg (by omega)] at his
      refine Ev.bind hr (Ev.bind his (Ev.pos rfl (Ev.pos rfl ?_)))
      refine Ev.bindc (turned_spec (rot l k) m (by omega) (by omega)) ?_
      have hxm : (rot l k).drop m ++ (rot l k).take m = rot (rot l k) m := rfl
      rw [hxm, least_same h0 hk hb hm b3 m3]
      refine Ev.bind (by_spec _ _ (by omega)) (Ev.pos (by simp) (Ev.eq (Ev.now _) ?_))
      dsimp only
      have hp1 := hp.1
      have hple := rootLen_le hp h0
      by_cases hpn : p = l.length
      · have hL := (lynB_iff _).2 (least_low h0 hb b3 hp hpn)
        rw [hL, hpn, Nat.div_self h0]; rfl
      · have hL : lynB (rot l b) = false := lynB_no fun x => hpn (low_root h0 hb hp x)
        have hd : l.length / p ≠ 1 := fun c => by
          have := Nat.div_mul_cancel hp.2.1
          rw [c] at this
          omega
        rw [hL, show ((((l.length / p : Nat) : Int)) == 1) = false by rw [beq_eq_false_iff_ne]; omega]; rfl
end Go.Proofs.Ytbblpddbkdiagaa.Pure
